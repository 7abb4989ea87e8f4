/-
  The law NotebookMatchesReference: changed. (Printed by wip/gen/ncg.py.)
-/
import Derived.Test.YtenhciieboegbaaGreatDoorRMul
import Derived.Test.YtenhciieboegbaaGreatDoorRPw
import Derived.Laws.OwnMore
namespace Go.Proofs.YtenhciieboegbaaGreatDoor
open Go Go.RowKit Go.Maps
theorem ok_bd{b:Sc}{x:Nd}(h:okN b x=true):(1≤x.op∧x.op≤13)∧x.nm.length≤60∧(0≤x.n∧x.n≤63)∧(-1000000≤x.lo∧x.lo≤1000000):=by
  unfold okN okF at h
  split at h
  · rename_i e
    simp only[Bool.and_eq_true,decide_eq_true_eq]at h;rw[e,h.2.1.1.1.1];exact⟨by decide,by simp,by omega,by omega⟩
  split at h
  · rename_i e
    simp only[Bool.and_eq_true,decide_eq_true_eq]at h;have:=name_len h.1.1;rw[e];exact⟨by decide,by omega,by omega,by omega⟩
  split at h
  · rename_i e
    simp only[Bool.and_eq_true,decide_eq_true_eq]at h;have:=name_len h.1.1;rw[e];exact⟨by decide,by omega,by omega,by omega⟩
  split at h
  · rename_i e
    simp only[Bool.and_eq_true,decide_eq_true_eq]at h;have:=pat_len h.1.1.1;rw[e];exact⟨by decide,this,by omega,by omega⟩
  split at h
  · rename_i e
    simp only[bindO,Bool.or_eq_true,decide_eq_true_eq]at e;simp only[Bool.and_eq_true,decide_eq_true_eq]at h;have:=name_len h.1.1.1.1.1;exact⟨by omega,by omega,by omega,by omega⟩
  split at h
  · rename_i e
    simp only[joinO,Bool.or_eq_true,decide_eq_true_eq]at e;simp only[Bool.and_eq_true,decide_eq_true_eq]at h;have h1:=h.1.1.1.1.1;rw[h1];exact⟨by omega,by simp,by omega,by omega⟩
  ·cases h
def IsCh(S:Nat→Prop)(N:Nat)(y:Nd):Value→World→Prop:=λv w=>∃us:List Value,v=.agg us.toArray∧NdS (λg=>S g∨N≤g) w y us
def ChC(f:Nat):Prop:=∀(t k K:Nat) (b:Sc) (x:Nd) (us:List Value) (w:World) (S:Nat→Prop),t<2^f→k≤9→szN K b x≠0→(∀g,S g→g<w.heap.size)→NdS S w x us→Calls Tryz.prog 11 #[.agg us.toArray,.int .i64 (t:Int),.int .i64 (k:Int)] w (Ret w (IsCh S w.heap.size (chN f t k x)))
theorem chg_mk{S:Nat→Prop}{N:Nat}{w W9:World}{op:Int}{nm:List UInt8}{n v lo hi:Int}{ps:List Nd}{s:Bool}{a:Option Addr}{m c:Nat}{ao:Option Addr}{l cp:Nat}(E:Ext w W9)(hI:IsI 136 v (.agg #[.bool s,.slice a m c]) W9)(hb:NdBd nm op)(hl:ps.length=l∧l≤cp∧cp≤9223372036854775807)
    (hP:ps≠ []→ ∃g o,ao=some ⟨g,o,none⟩∧S g∧NdSR S w ps g o):NdS (λg=>S g∨N≤g) W9 (.mk op nm n v lo hi ps) [.int .i64 op,encS nm,.int .i64 n,.bool s,.slice a m c,.int .i64 lo,.int .i64 hi,.slice ao l cp]:=by
  obtain⟨rfl,h1,h2⟩:=hl;rw[NdS];refine⟨hb,s,a,m,c,ao,cp,rfl,hI,h1,h2,λhne=>?_⟩;obtain⟨g,o,q1,q2,q3⟩:=hP hne;exact⟨g,o,q1,.inl q2,NdSR.kept (λ_ h=> .inl h) (λ_ _ _ hv=>E.cell hv) E.gr ps g o q2 q3⟩
theorem st_In3{W:World}{g:Nat}{v0 v1 v2:Value}{s:Bool}{a:Option Addr}{m c:Nat}{l:List Value}{s':Bool}{a':Option Addr}{m' c':Nat}(B:Bk W g (v0 ::v1 ::v2 :: .bool s :: .slice a m c ::l))(hn:∀v∈(v0 ::v1 ::v2 :: .bool s :: .slice a m c ::l),NoWord v):
    ∃W',(Instr.storeAt 29 (.pointer (some ⟨g,3,none⟩)) (.agg #[.bool s',.slice a' m' c'])).run Tryz.prog W=.ok () W'∧OnlyB g W W'∧Bk W' g (v0 ::v1 ::v2 :: .bool s' :: .slice a' m' c' ::l):=by
  obtain⟨cs',O,B',hl,_,hj⟩:=B.ovr [.bool s',.slice a' m' c'] 3 (by simp) hn (by simpa using nw2)
  have hcs:cs'=v0 ::v1 ::v2 :: .bool s' :: .slice a' m' c' ::l:=by
    apply List.ext_getElem?;intro j;rw[hj j];rcases j with _|_|_|_|_|j
    ·simp
    ·simp
    ·simp
    ·simp
    ·simp
    ·rw[if_neg (by simp <;> omega)];simp
  rw[hcs]at B';refine⟨_,?_,O,B'⟩
  have ht:W.there g 3 (#[.bool s',.slice a' m' c']:Array Value).size:=λj hj=>by
    have hj':j<2:=by simpa using hj
    rcases(by omega:j=0∨j=1)with rfl|rfl
    ·exact⟨by rw[B.c 3 _ rfl];rfl,B.f 3⟩
    ·exact⟨by rw[B.c 4 _ rfl];rfl,B.f 4⟩
  rw[run_storeAt_mid W g 3 29 #[.bool s',.slice a' m' c'] ht (by kernel_rfl) (by simp[Value.oneCell']),setCellsL]
theorem wp_stI{P:Program}{o:Oper}{Q:Exit→Act→World→Prop}{a:Act}{K:Act→World→Prop}{W W':World}{T:Nat}{x y:Operand}{p u:Value}(hr:(Instr.storeAt T p u).run P W=.ok () W')(h:K a W')(ho:o.op=.store T x y:=by rfl)(hd:o.dst=none:=by rfl)(hx:a.eval x=p:=by kernel_rfl)(hy:a.eval y=u:=by kernel_rfl):Oper.wp P o a W K Q:=by
  refine st_wp ho hx hy hr ?_;rw[hd];exact h
theorem pow136{x:Value}{w:World}{n:Nat}(hx:IsI 2 2 x w)(hn:n≤256):Calls Tryz.prog 30 #[x,.int .i64 (n:Nat)] w (Ret w (IsI 136 (2^n))):=by
  refine Calls.mono (RPower_f hx n (by omega) (by omega)) ?_;rintro e w' ⟨v,rfl,e1,s,a,m,c,rfl,h⟩;refine⟨_,rfl,e1,s,a,m,c,rfl,h.tight ?_⟩;have h1:((2:Int)^n).natAbs=2^n:=by rw[Int.natAbs_pow];rfl
  rw[h1];refine Nat.lt_of_le_of_lt (Nat.pow_le_pow_right (by decide) hn) ?_;exact of_decide_eq_true (by kernel_rfl)
theorem run_append_zero{P:Program}{w:World}(base:Nat)(t ty e:TypeId)(i:TypeInfo)(size:Nat)(ht:P.underlying t=some (.slice e))(hi:P.info? e=some i)
    (v:Value) (n:Nat) (xs:List Value) (hown:w.ownsRow base e size v n xs) (ao:Option Addr) (c:Nat):
    (Builtin.append_ #[t,t] ty #[v,.slice ao 0 c]).run P w=.ok v w:=by
  cases ao with
  | none=>
    rcases hown.2 with⟨rfl,rfl⟩| ⟨g,cap,cur,rfl,_,_,hnc,_⟩
    ·simp[Builtin.append_,run_underlying ht,sizeOf,typeInfo,hi,Builtin.lenOf,Builtin.firstCells]
    ·simp[Builtin.append_,run_underlying ht,sizeOf,typeInfo,hi,Builtin.lenOf,Builtin.firstCells,hnc,storeCells]
  | some a=>
    rcases hown.2 with⟨rfl,rfl⟩| ⟨g,cap,cur,rfl,_,_,hnc,_⟩
    ·simp[Builtin.append_,run_underlying ht,sizeOf,typeInfo,hi,Builtin.lenOf,Builtin.firstCells,loadCells,loadCellsFrom]
    ·simp[Builtin.append_,run_underlying ht,sizeOf,typeInfo,hi,Builtin.lenOf,Builtin.firstCells,hnc,storeCells,loadCells,loadCellsFrom]
theorem wp_nds{w:World}{o:Oper}{a:Act}{Q:Exit→Act→World→Prop}{K:Act→World→Prop}(s x:Operand)
    (ho:o.op=.call {callee:=.builtin .append,args:= #[s,x],argTypes:= #[30,30]}) (base:Nat) (M M':List (List Value)) (v xv:Value) (hs:a.eval s=v) (hx:a.eval x=xv) (hI:RwK 32 8 base M v w) (hM:∀us∈M',us.length=8∧(∀v∈us,NoWord v)∧us.all (λu=>u.oneCell')=true)
    (hsrc:(M'= []∧ ∃ao c,xv=.slice ao 0 c)∨SrcR M'.length M'.flatten xv w) (hl:M.length+M'.length≤1000000) (hbase:base≤w.heap.size)
    (h:∀v' w',RwK 32 8 base (M++M') v' w'→w.grownBy w' v.ownBlock→Gr w w'→Below base w w'→K (a.put o.dst v') w'):Oper.wp Tryz.prog o a w K Q:=by
  obtain⟨bytes,hi,hb⟩:=infoNd;rcases hsrc with⟨rfl,ao,c,rfl⟩|hsrc
  · obtain⟨i,hi2,-,-,-⟩:=info_parts hi
    have hr:=run_append_zero (P:=Tryz.prog) (w:=w) base 30 o.type 32 i 8 (by kernel_rfl) hi2 v M.length M.flatten hI.1 ao c;unfold Oper.wp execOp;simp only[ho,resolve,invoke,builtin,Sem.run_bind,Sem.run_pure,Result.andThen_ok,List.map_toArray,List.map_cons,List.map_nil,hs,hx,hr];exact h v w (by simpa using hI) ⟨rfl,rfl,rfl,Nat.le_refl _,λ_ _ _=>rfl⟩ (Gr.refl w) (Below.refl base w)
  · refine wp_rwnS s x 30 ho base 32 (.agg zNd.toArray) 8 bytes (by kernel_rfl) hi rfl (by decide) (λu hu=>nwZN u (by simpa [Value.cells]using hu)) v M.length M.flatten hs hI.1 hI.2 M'.length M'.flatten xv hx (flat_lenK λus hu=>(hM us hu).1) hsrc (λu hu=>?_) (λu hu=>?_) (by omega) (by have:=Nat.mul_le_mul (show M.length+M'.length≤1000000 by omega) hb;omega) hbase ?_
    · obtain⟨us,h1,h2⟩:=List.mem_flatten.1 hu
      exact List.all_eq_true.1 (hM us h1).2.2 u h2
    · obtain⟨us,h1,h2⟩:=List.mem_flatten.1 hu
      exact(hM us h1).2.1 u h2
    · intro v' w' r1 r2 r3 r4 r5 r6
      exact h v' w' ⟨by rw[List.length_append,List.flatten_append];exact r1,r2⟩ r3 r4 r5
theorem RwK.bk{T k base:Nat}{M:List (List Value)}{v:Value}{w:World}(h:RwK T k base M v w)(hM:M.length≠0):∃g cap,v=.slice (some ⟨g,0,none⟩) M.length cap∧base≤g∧M.length≤cap∧cap≤9223372036854775807∧Bk w g M.flatten:=by
  obtain⟨ao,cap,h1,h2,h3,h4,h5⟩:=h.1.shape;obtain⟨g,rfl,k1,k2,k3⟩:=h5 hM;obtain⟨-,⟨h8,h9⟩| ⟨g',cap',cur,hv,-,hg,-⟩⟩:=h.1
  ·exact absurd h9 hM
  · rw[h1]at hv
    obtain rfl:g=g':=by injection hv with e;injection e with e;injection e
    exact⟨g,cap,h1,k1,h2,h3,λj u hj=>k3 j u hj,λj=>by simp[World.frozen?,hg],k2⟩
theorem ndS_usZ{S:Nat→Prop}{w:World}:NdS S w (ndE (.num 0)) usZ:=by
  show NdS S w (.mk 1 [] 0 0 0 0 []) usZ;rw[NdS];exact⟨⟨by simp,by decide,by decide⟩,false,none,0,0,none,0,rfl,IsI.nil _ _,Nat.le_refl _,by decide,λh=>absurd rfl h⟩
theorem ndS_row{S:Nat→Prop}{w:World}{op:Int}{nm:List UInt8}{n v lo hi:Int}{qs:List Nd}{s:Bool}{a:Option Addr}{m c:Nat}{r l cp:Nat}{M:List (List Value)}(hb:NdBd nm op)(hI:IsI 136 v (.agg #[.bool s,.slice a m c]) w)(hl:qs.length=l∧l≤cp∧cp≤9223372036854775807)(hr:S r)(B:Bk w r M.flatten)(hM:∀us∈M,us.length=8)
    (hq:∀(i:Nat) (x:Nd),qs[i]? =some x→ ∃us:List Value,M[i]? =some us∧NdS S w x us):NdS S w (.mk op nm n v lo hi qs) [.int .i64 op,encS nm,.int .i64 n,.bool s,.slice a m c,.int .i64 lo,.int .i64 hi,.slice (some ⟨r,0,none⟩) l cp]:=by
  obtain⟨rfl,h1,h2⟩:=hl;rw[NdS];refine⟨hb,s,a,m,c,_,cp,rfl,hI,h1,h2,λ_=>⟨r,0,rfl,hr,NdSR.of λi x hi=>?_⟩⟩;obtain⟨us,k1,k2⟩:=hq i x hi;refine⟨us,hM us (List.mem_of_getElem? k1),λj u hj=>?_,k2⟩;rw[Nat.zero_add];exact B.c _ u (flat_atK hM k1 hj)
theorem ps_rows{S:Nat→Prop}{w:World}{ps:List Nd}{ao:Option Addr}{n cp:Nat}(hn:ps.length=n)(hP:ps≠ []→ ∃g o,ao=some ⟨g,o,none⟩∧S g∧NdSR S w ps g o):∃M:List (List Value),M.length=n∧(∀us∈M,us.length=8∧(∀v∈us,NoWord v)∧us.all (λu=>u.oneCell')=true)∧((M= []∧ ∃ao' c',Value.slice ao n cp=.slice ao' 0 c')∨SrcR M.length M.flatten (.slice ao n cp) w)∧ ∀(i:Nat) (x:Nd),ps[i]? =some x→ ∃us:List Value,M[i]? =some us∧NdS S w x us:=by
  by_cases hps:ps= []
  · subst hps
    obtain rfl:0=n:=hn;exact⟨[],rfl,λ_ h=>(by cases h),.inl ⟨rfl,ao,cp,rfl⟩,λi x h=>by simp at h⟩
  · obtain⟨g,o,rfl,-,hR⟩:=hP hps
    obtain⟨M,k1,k2,k3,k4⟩:=hR.rows;refine⟨M,by rw[k1,hn],λus hu=>?_,.inr (.inr ⟨g,o,cp,by rw[k1,hn],k3⟩),k4⟩;obtain⟨i,hi⟩:=List.getElem?_of_mem hu;have hlt:i<ps.length:=by rw[← k1];exact(List.getElem?_eq_some_iff.1 hi).1
    obtain⟨us',q1,q2⟩:=k4 i ps[i] (List.getElem?_eq_getElem hlt);rw[hi]at q1;cases q1;exact q2.nw
theorem flat_idx:∀ {M:List (List Value)},(∀us∈M,us.length=8)→ ∀j,M.flatten[j]? =(M[j/8]?).bind (λus=>us[j%8]?)
  | [],_,j=>by simp
  | us ::M,h,j=>by
    have h8:=h us (by simp);rw[List.flatten_cons];rcases Nat.lt_or_ge j 8 with hlt|hge
    ·rw[List.getElem?_append_left (by omega),Nat.div_eq_of_lt hlt,Nat.mod_eq_of_lt hlt];rfl
    · rw[List.getElem?_append_right (by omega),h8,flat_idx (λvs hv=>h vs (by simp[hv])) (j-8)]
      rw[show j/8=(j-8)/8+1 by omega,show j%8=(j-8)%8 by omega,List.getElem?_cons_succ]
theorem st_mid{W:World}{r i:Nat}{M:List (List Value)}{us:List Value}(B:Bk W r M.flatten)(hM:∀us∈M,us.length=8∧(∀v∈us,NoWord v)∧us.all (λu=>u.oneCell')=true)(hi:i<M.length)(hu:us.length=8∧(∀v∈us,NoWord v)∧us.all (λu=>u.oneCell')=true):
    ∃W',(Instr.storeAt 32 (.pointer (some ⟨r,8*i,none⟩)) (.agg us.toArray)).run Tryz.prog W=.ok () W'∧OnlyB r W W'∧Bk W' r (M.set i us).flatten:=by
  have h8:∀us∈M,us.length=8:=λus h=>(hM us h).1
  have h8':∀vs∈M.set i us,vs.length=8:=λvs h=>by
    rcases List.mem_or_eq_of_mem_set h with h|rfl
    ·exact h8 vs h
    ·exact hu.1
  have hlen:M.flatten.length=M.length*8:=flat_lenK h8
  obtain⟨cs',O,B',hl,_,hj⟩:=B.ovr us (8*i) (by rw[hlen,hu.1];omega) (λv hv=>by
    obtain⟨vs,q1,q2⟩:=List.mem_flatten.1 hv
    exact(hM vs q1).2.1 v q2) hu.2.1
  have hcs:cs'=(M.set i us).flatten:=by
    apply List.ext_getElem?;intro j;rw[hj j,flat_idx h8',hu.1];by_cases h:8*i≤j∧j<8*i+8
    · rw[if_pos h,show j/8=i by omega,List.getElem?_set_self hi]
      show us[j-8*i]? =us[j%8]?;rw[show j%8=j-8*i by omega]
    ·rw[if_neg h,flat_idx h8,List.getElem?_set_ne (by omega)]
  rw[hcs]at B';refine⟨_,?_,O,B'⟩
  have ht:W.there r (8*i) us.toArray.size:=λj hj2=>by
    have hj':j<8:=by simpa [hu.1]using hj2
    exact⟨by rw[B.c (8*i+j) _ (List.getElem?_eq_getElem (by omega))];rfl,B.f (8*i+j)⟩
  rw[run_storeAt_mid W r (8*i) 32 us.toArray ht (by simp only[List.size_toArray];rw[hu.1];kernel_rfl) (by simpa using hu.2.2),setCellsL]
theorem wp_ixA{P:Program}{o:Oper}{Q:Exit→Act→World→Prop}{a:Act}{K:Act→World→Prop}{w:World}{T:Nat}{x y:Operand}{p u r:Value}(hr:(Instr.indexAt T p u).run P w=.ok r w)(h:K (a.put o.dst r) w)(hx:a.eval x=p:=by kernel_rfl)(hy:a.eval y=u:=by kernel_rfl)(ho:o.op=.indexAddr T x y:=by rfl):Oper.wp P o a w K Q:=by
  have h9:(execOp a.eval o).run P w=.ok (.value r) w:=by
    unfold execOp;rw[ho];dsimp only;rw[hx,hy];simp[hr]
  unfold Oper.wp;rw[h9];exact h
theorem st_Sl(ao:Option Addr)(n c:Nat):StC1 Tryz.prog 30 (.slice ao n c):=λw a v h2 h3=>by go_simp
theorem st_Str(s:ByteArray):StC1 Tryz.prog 9 (.string s):=λw a v h2 h3=>by go_simp
section
set_option maxRecDepth 100000
set_option maxHeartbeats 16000000
theorem okN_len{b:Sc}{x:Nd}(h:okN b x=true):x.ps.length≤2:=by
  rcases ok_cases h with⟨-,-,e⟩| ⟨-,-,e⟩| ⟨-,-,-,-,e⟩| ⟨-,-,-,-,-,a,e⟩| ⟨-,a,c,e⟩ <;> rw[e] <;> simp
theorem changed_s(f:Nat)(hf:f≤20)(IH:Hid (∀f',f=f'+1→ChC f')):ChC f:=by
  rintro t k K b ⟨op,nm,xn,z,lo,hi,ps⟩ us w S ht hk hsz hS hx
  obtain⟨K,rfl⟩:∃K',K=K'+1:=by
    cases K with
    |zero=>exact absurd rfl hsz
    |succ K=>exact⟨K,rfl⟩
  obtain⟨hok,hall⟩:=sz_parts hsz;have hbd:=ok_bd hok;obtain⟨-,s,a,m,c,ao,cp,rfl,hI,hc1,hc2,hps⟩:=hx.out;simp only[Nd.op,Nd.nm,Nd.n,Nd.lo,Nd.ps]at*;have HX:=hid hx;have HI:=hid hI;have HP:=hid hps;have HA:=hid hall;have HBD:=hid hbd;have HT:=hid (And.intro ht hk);have HTB:=hid (show t<9223372036854775807 by have h1:2^f≤2^20:=Nat.pow_le_pow_right (by decide) hf;omega);have HSS:=hid hS;have hln:=okN_len hok;obtain⟨n,hn⟩:∃n,ps.length=n:=⟨_,rfl⟩;have HN:=hid (show ps.length=n∧n≤cp∧cp≤9223372036854775807 from⟨hn,hn▸hc1,hc2⟩);have HLN:=hid (show n≤2 by rw[← hn];exact hln);rw[hn]at HX;rw[hn];obtain⟨W,hW,E,B3,B6⟩:=nd_two_blocks w [.int .i64 (op),encS nm,.int .i64 (xn),.bool s,.slice a m c,.int .i64 (lo),.int .i64 hi,.slice ao n cp] [.int .i64 0,.string ⟨#[]⟩,.int .i64 0,.bool false,.slice none 0 0,.int .i64 0,.int .i64 0,.slice none 0 0];have HE:=hid E;have HB3:=hid B3;have HB6:=hid (show Bk W (w.heap.size+1) zNd from B6);obtain⟨y,hy⟩:∃y,chN f t k (.mk op nm xn z lo hi ps)=y:=⟨_,rfl⟩;rw[hy];have HY:=hid hy;clear hln ht hk hsz hS hx hok hall hbd hI hc1 hc2 hps hn E B3 B6 hy;go_enter Tryz.func11,Tryz.ntmps11;go_upto_region 1 with(fail)
  try simp only[Nat.add_zero]
  rw[← hW];clear hW;obtain⟨c1,hc1⟩:∃r,decide (0<t)=r:=⟨_,rfl⟩;have Hc1:=hid hc1;clear hc1;obtain⟨c2,hc2⟩:∃r,decide (0<n)=r:=⟨_,rfl⟩;have Hc2:=hid hc2;clear hc2;obtain⟨r,hr⟩:∃r,(c1&&c2)=r:=⟨_,rfl⟩;have Hr:=hid hr;clear hr;refine rgs 8 [some 9,some 10,some 11,some 12,some 13,some 14,some 15,some 16] [IsV (.int .i64 (t:Int)),IsV (.bool c1),IsV (.bool c1),IsIf c1 (IsV (.pointer (some ⟨w.heap.size,7,none⟩))),IsIf c1 (IsV (.slice ao n cp)),IsIf c1 (IsV (.int .i64 (n:Int))),IsIf c1 (IsV (.bool c2)),IsV (.bool r)] [] ?_ ?_ (hst:=by repeat' (first|exact trivial|exact IsV.stb _|apply IsIf.stb|apply And.intro))
  · refine Rc (mv (Od.lit (x:=.int .i64 (t:Int)) 1)) ?_
    refine Rc (bn (r:=.bool c1) (Od.lc (fP:=IsV (.int .i64 (t:Int))) 0 9) Od.con (hr:=λw=>by have hx8:decide (0<t)=c1:=Hc1.out;have hx9:=(show decide ((0:Int)<(t:Int))=c1 from by rw[← Hc1.out];apply decide_eq_decide.2;omega);go_simp)) ?_;refine Rc (mv (Od.lc (fP:=IsV (.bool c1)) 1 10)) ?_;refine RcB 2 11 c1 true (λhb=>by subst hb;exact fa (fa_Nd6 w.heap.size) (Od.lit 3)) ?_;refine RcB 2 11 c1 true (λhb=>by subst hb;exact lvC 7 (HB3.out) ld_Nds (Od.lc 3 12)) ?_;refine RcB 2 11 c1 true (λhb=>by subst hb;exact lenNd (Od.lc (fP:=IsV (.slice ao n cp)) 4 13)) ?_;refine RcB 2 11 c1 true (λhb=>by subst hb;exact bn (r:=.bool c2) (Od.lc (fP:=IsV (.int .i64 (n:Int))) 5 14) Od.con (hr:=λw=>by have hx8:decide (0<n)=c2:=Hc2.out;have hx9:=(show decide ((0:Int)<(n:Int))=c2 from by rw[← Hc2.out];apply decide_eq_decide.2;omega);go_simp)) ?_;refine Rc (pkA (Od.lc (fP:=IsV (.bool c1)) 2 11) (λhb=>by subst hb;exact(Od.lc (fP:=IsV (.bool c2)) 6 15)) Hr.out) ?_;exact RgAll.nil
  intro u X1 e1 hΦ _;have q9:u 7=.bool r:=hΦ 7 (by decide);simp only[layL,Act.put,List.setIfInBounds_toArray,List.set_cons_zero,List.set_cons_succ,Nat.reduceAdd];rw[q9];have HE1:=hid (HE.out.trans e1);have HC3:=hid (HB3.out.ext e1);have HC6:=hid (HB6.out.ext e1);clear hΦ q9 e1 HE HB3 HB6;refine wpList_nil ?_;cases r with
  | true=>
    have hc:0<t∧0<n:=by
      have h3:=Hr.out;rw[Bool.and_eq_true,← Hc1.out,← Hc2.out,decide_eq_true_eq,decide_eq_true_eq]at h3;exact h3
    obtain⟨f',rfl⟩:∃f',f=f'+1:=by
      cases f with
      |zero=>exact absurd HT.out.1 (by have:=hc.1;show ¬t<1;omega)
      |succ f'=>exact⟨f',rfl⟩
    have HIH:=hid (IH.out f' rfl);obtain⟨i,hi0⟩:∃i,t%n=i:=⟨_,rfl⟩;have hin:i<n:=by rw[← hi0];exact Nat.mod_lt _ hc.2
    obtain⟨xi,hxi⟩:∃xi,ps[i]? =some xi:=⟨_,List.getElem?_eq_getElem (by rw[HN.out.1];exact hin)⟩
    have HYR:=hid (show y=.mk op nm xn z lo hi (ps.set i (chN f' (t/2) k xi))by
      rw[← HY.out,chN,if_pos ⟨hc.1,λe=>by have e2:ps= []:=e;have h1:=HN.out.1;rw[e2]at h1;have h2:=hc.2;simp at h1;omega⟩];show Nd.mk op nm xn z lo hi (ps.set (t%ps.length) (chN f' (t/2) k (ps.getD (t%ps.length) _)))=_;rw[HN.out.1,hi0,List.getD_eq_getElem?_getD,hxi]
      rfl)
    have HTT:=hid (show t/2<2^f' by have:=HT.out.1;rw[Nat.pow_succ]at this;omega);have htb:t<9223372036854775807:=HTB.out;have htm:Int.tmod (t:Int) (n:Int)=(i:Int):=by rw[← hi0];rfl
    have htd:Int.tdiv (t:Int) 2=((t/2:Nat):Int):=rfl;have hwi:IntKind.i64.wrap (i:Int)=(i:Int):=by have:=HLN.out;simp only[IntKind.wrap_i64];omega
    have hwd:IntKind.i64.wrap ((t/2:Nat):Int)=((t/2:Nat):Int):=by simp only[IntKind.wrap_i64];omega
    have hwd2:IntKind.i64.wrap ((t:Int)/2)=((t/2:Nat):Int):=by simp only[IntKind.wrap_i64];omega
    have hn0:¬(n:Int)=0:=by have:=hc.2;omega
    have hn1:¬n=0:=by have:=hc.2;omega
    have HXI:=hid hxi;have HIN:=hid hin;have HTD:=hid (And.intro htd hwd2);clear hc hi0 hxi HY Hr Hc1 Hc2 hin htd hwd hwd2;go_upto_region 2 with(fail);obtain⟨M,hM1,hM2,hM3,hM4⟩:=ps_rows (cp:=cp) HN.out.1 HP.out;have HM:=hid (And.intro hM1 (And.intro hM2 hM4));obtain⟨W2,hW2,E2,R2⟩:∃W2,W2=X1.alloc (.cells #[] 32)∧Ext X1 W2∧RwK 32 8 X1.heap.size [] (.slice (some ⟨X1.heap.size,0,none⟩) 0 0) W2:=⟨_,rfl,(Ext.refl _).alloc _,RwN.zero X1⟩;have hM5:=hM3.imp id (λh=>(h.ext HE1.out).ext E2);clear hM1 hM2 hM3 hM4;refine wp_region_lit ?_;refine wpList_step λK hK=>?_
    go_simp
    refine hK _ _ ?_;clear hK K;rw[← hW2];clear hW2;refine stL (λK hK=>wp_fa (fa_Nd6 w.heap.size _) (hK _ _ ?_));clear hK K
    try go_simp
    refine stL (λK hK=>wp_ld (p:=.pointer (some ⟨w.heap.size,7,none⟩)) (u:=.slice ao n cp) (ld_Nds _ _ _ ((HC3.out.ext E2).c 7 _ rfl)) (hK _ _ ?_));clear hK K
    try go_simp
    refine stL (λK hK=>wp_nds (.tmp 17) (.tmp 19) rfl X1.heap.size [] M (.slice (some ⟨X1.heap.size,0,none⟩) 0 0) (.slice ao n cp) rfl rfl R2 HM.out.2.1 hM5 (by have h1:=HM.out.1;have h2:=HLN.out;simp;omega) E2.size (λv8 X8 q1 q2 q3 q4=>hK _ _ ?_));have E8:Ext X1 X8:=Below.grown E2 q2 E2.size (λj hj=>by have:X1.heap.size=j:=(by injection hj);omega);have R8:RwK 32 8 X1.heap.size M v8 X8:=by simpa using q1
    clear hK K q1 q2 q3 q4 R2 E2 hM5
    try go_simp
    refine stL (λK hK=>wp_mv (hK _ _ ?_));clear hK K
    try go_simp
    refine wpList_nil ?_;obtain⟨r,cap,hv8,hr8,hc8,hc8',B8r⟩:=R8.bk (by rw[HM.out.1];exact hn1);rw[HM.out.1]at hv8 hc8;subst hv8;go_upto_region 4 with(fail);obtain⟨usi,hus,hds⟩:=HM.out.2.2 i xi HXI.out;have h8i:=HM.out.2.1 usi (List.mem_of_getElem? hus);have hszs:=HE1.out.size;have hszX:=HC6.out.lt;have hr8l:=B8r.lt;have HC38:=hid (HC3.out.ext E8);have HC68:=hid (HC6.out.ext E8);have HEW:=hid (HE1.out.trans E8);have HR8:=hid (show Bk X8 r M.flatten∧w.heap.size+1<r∧r<X8.heap.size∧n≤cap∧cap≤9223372036854775807 from⟨B8r,by omega,hr8l,hc8,hc8'⟩);have HUS:=hid (And.intro hus (And.intro hds h8i));clear R8 E8 hr8 hc8 hc8' B8r hus hds h8i hszs hszX hr8l htm hwi hn0 hn1 HC3 HC6 HE1;refine wp_region_lit ?_;refine stL (λK hK=>wp_mv (hK _ _ ?_));clear hK K
    try go_simp
    refine stL (λK hK=>wp_mv (hK _ _ ?_));clear hK K
    try go_simp
    refine stL (λK hK=>wp_mv (hK _ _ ?_));clear hK K
    try go_simp
    refine stL (λK hK=>wp_mv (hK _ _ ?_));clear hK K
    try go_simp
    refine stL (λK hK=>wp_ixA (p:=.slice (some ⟨r,0,none⟩) n cap) (u:=.int .i64 (i:Int)) (ix_Nd r 0 cap n i HIN.out _) (hK _ _ ?_));clear hK K
    try go_simp
    refine stL (λK hK=>wp_ld (p:=.pointer (some ⟨r,8*i,none⟩)) (u:=.agg usi.toArray) (ldM (by kernel_rfl) (by kernel_rfl) HUS.out.2.2.1 (λj v hj=>by exact HR8.out.1.c _ v (flat_atK (λus hu=>(HM.out.2.1 us hu).1) HUS.out.1 hj))) (hK _ _ ?_));clear hK K
    try go_simp
    refine stL (λK hK=>wp_mv (hK _ _ ?_));clear hK K
    try go_simp
    have hx1:=HTD.out.1;have hx2:=HTD.out.2;refine wpList_step λK hK=>?_
    go_simp
    refine hK _ _ ?_;clear hK K;clear hx1 hx2;refine stL (λK hK=>wp_mv (hK _ _ ?_));clear hK K
    try go_simp
    refine stL (λK hK=>?_);refine wp_callN (us:= [.agg usi.toArray,.int .i64 ((t/2:Nat):Int),.int .i64 (k:Int)]) (en Tryz.func11) (by kernel_rfl) (HIH.out (t/2) k _ _ xi usi X8 S HTT.out HT.out.2 (HA.out xi (List.mem_of_getElem? HXI.out)) (λg hg=>Nat.lt_of_lt_of_le (HSS.out g hg) HEW.out.size) (HUS.out.2.1.ext HEW.out)) (λv9 X9 h=>hK _ _ ?_) (λch X h=>by{obtain⟨x,hx,_⟩:=h;cases hx}) (λX h=>by{obtain⟨x,hx,_⟩:=h;cases hx});clear hK K;obtain⟨u',h0,e9,usy,rfl,hdy⟩:=h;cases h0;have HDY:=hid hdy;have HR9:=hid (HR8.out.1.ext e9);have HC39:=hid (HC38.out.ext e9);have HC69:=hid (HC68.out.ext e9);have HEW9:=hid (HEW.out.trans e9);clear e9 hdy HC38 HC68 HEW
    try go_simp
    refine stL (λK hK=>wp_ixA (p:=.slice (some ⟨r,0,none⟩) n cap) (u:=.int .i64 (i:Int)) (ix_Nd r 0 cap n i HIN.out _) (hK _ _ ?_));clear hK K
    try go_simp
    refine stL (λK hK=>?_);obtain⟨X10,hr,O,BB⟩:=st_mid (i:=i) HR9.out HM.out.2.1 (by rw[HM.out.1];exact HIN.out) HDY.out.nw;refine wp_stI hr (hK _ _ ?_);clear hr
    have HR10:=hid (show Bk X10 r (M.set i usy).flatten∧Bk X10 w.heap.size [.int .i64 (op),encS nm,.int .i64 (xn),.bool s,.slice a m c,.int .i64 (lo),.int .i64 hi,.slice ao n cp]∧Bk X10 (w.heap.size+1) zNd∧Ext w X10∧NdS (λg=>S g∨X8.heap.size≤g) X10 (chN f' (t/2) k xi) usy from⟨BB,O.bk HC39.out (by have:=HR8.out.2.1;omega),O.bk HC69.out (by have:=HR8.out.2.1;omega),O.ext HEW9.out (by have:=HR8.out.2.1;omega),HDY.out.ob (Ob.only O) (λh=>by
      rcases h with h|h
      ·have h1:=HSS.out r h;have h2:=HR8.out.2.1;omega
      ·have h2:=HR8.out.2.2.1;omega)⟩)
    clear hK K O BB HR9 HC39 HC69 HEW9 HDY
    try go_simp
    refine wpList_nil ?_;go_upto_region 5 with(fail);refine wp_region_lit ?_;refine stL (λK hK=>wp_mv (hK _ _ ?_));clear hK K
    try go_simp
    refine stL (λK hK=>wp_fa (fa_Nd6 w.heap.size _) (hK _ _ ?_));clear hK K
    try go_simp
    refine stL (λK hK=>?_);refine stCO 7 (u:=.slice (some ⟨r,0,none⟩) n cap) (v:=.slice ao n cp) HR10.out.2.1 (st_Sl _ _ _) rfl (nwSl _ _ _) (λX2 BB O=>hK _ _ ?_);have HB2:=hid (show Bk X2 w.heap.size [.int .i64 (op),encS nm,.int .i64 (xn),.bool s,.slice a m c,.int .i64 (lo),.int .i64 hi,.slice (some ⟨r,0,none⟩) n cap]from BB);have HE2:=hid (show Ext w X2 from O.ext HR10.out.2.2.2.1 (Nat.le_refl _));have HG2:=hid (show Bk X2 (w.heap.size+1) zNd from O.bk HR10.out.2.2.1 (by omega))
    have HR2:=hid (show Bk X2 r (M.set i usy).flatten∧NdS (λg=>S g∨X8.heap.size≤g) X2 (chN f' (t/2) k xi) usy from⟨O.bk HR10.out.1 (by have:=HR8.out.2.1;omega),HR10.out.2.2.2.2.ob (Ob.only O) (λh=>by
      rcases h with h|h
      ·have h1:=HSS.out _ h;omega
      ·have h2:=HR8.out.2.2.1;have h3:=HR8.out.2.1;omega)⟩)
    clear hK K BB O HR10
    try go_simp
    refine wpList_nil ?_;go_upto_region 6 with(fail);refine wp_region_lit ?_;refine stL (λK hK=>wp_ld (p:=.pointer (some ⟨w.heap.size,0,none⟩)) (u:=.agg ([.int .i64 (op),encS nm,.int .i64 (xn),.bool s,.slice a m c,.int .i64 (lo),.int .i64 hi,.slice (some ⟨r,0,none⟩) n cap]).toArray) (ld_Nd _ w.heap.size _ rfl HB2.out) (hK _ _ ?_));clear hK K
    try go_simp
    refine stL (λK hK=>?_);refine stVO (us:= [.int .i64 (op),encS nm,.int .i64 (xn),.bool s,.slice a m c,.int .i64 (lo),.int .i64 hi,.slice (some ⟨r,0,none⟩) n cap]) HG2.out st_Nd rfl rfl nwZN (λW9 B9 O=>hK _ _ ?_);have E9:Ext w W9:=O.ext HE2.out (Nat.le_succ _)
    have hd9:NdS (λg=>S g∨w.heap.size≤g) W9 y [.int .i64 (op),encS nm,.int .i64 (xn),.bool s,.slice a m c,.int .i64 (lo),.int .i64 hi,.slice (some ⟨r,0,none⟩) n cap]:=by
      rw[HYR.out]
      refine ndS_row (M:=M.set i usy) (by have:=HBD.out;exact⟨by omega,by omega,by omega⟩) (HI.out.ext E9) ⟨by rw[List.length_set];exact HN.out.1,HR8.out.2.2.2.1,HR8.out.2.2.2.2⟩ (.inr (by have:=HR8.out.2.1;omega)) (O.bk HR2.out.1 (by have:=HR8.out.2.1;omega)) (λus hu=>by
        rcases List.mem_or_eq_of_mem_set hu with hu|rfl
        ·exact(HM.out.2.1 us hu).1
        ·exact HR2.out.2.nw.1) (λj x hj=>?_)
      by_cases hji:j=i
      · subst hji
        rw[List.getElem?_set_self (by rw[HN.out.1];exact HIN.out)]at hj;cases hj
        refine⟨usy,List.getElem?_set_self (by rw[HM.out.1];exact HIN.out),(HR2.out.2.ob (Ob.only O) (λh=>by
          rcases h with h|h
          ·have h1:=HSS.out _ h;omega
          ·have h2:=HR8.out.2.2.1;have h3:=HR8.out.2.1;omega)).mono (λg h=>h.imp id (λh=>by have h2:=HR8.out.2.2.1;have h3:=HR8.out.2.1;omega))⟩
      · rw[List.getElem?_set_ne (Ne.symm hji)]at hj
        obtain⟨us,k1,k2⟩:=HM.out.2.2 j x hj;exact⟨us,by rw[List.getElem?_set_ne (Ne.symm hji)];exact k1,(k2.ext E9).mono (λ_ h=> .inl h)⟩
    clear hK K O;refine wpList_nil ?_;go_wp2_with fail;exact bodyPost_ret (resC Tryz.results11 rfl (lvM (by kernel_rfl) (by kernel_rfl) rfl B9)) rfl ⟨_,rfl,E9,_,rfl,hd9⟩
  | false=>
    have HO:=hid (show chO k (.mk op nm xn z lo hi ps)=y by
      rw[← HY.out];cases f with
      |zero=>rfl
      | succ f=>
        rw[chN,if_neg];rintro⟨h1,h2⟩;have h3:=Hr.out;rw[← Hc1.out,← Hc2.out,← HN.out.1,decide_eq_true h1,decide_eq_true (show 0<ps.length from List.length_pos_iff.2 h2)]at h3
        cases h3)
    clear HY Hr Hc1 Hc2;rcases(by have:=HT.out.2;omega:k=0∨k=1∨k=2∨k=3∨k=4∨k=5∨k=6∨k=7∨k=8∨k=9)with rfl|rfl|rfl|rfl|rfl|rfl|rfl|rfl|rfl|rfl
    · have hx9:IntKind.i64.wrap (op+1)=op+1:=by have:=HBD.out;simp only[IntKind.wrap_i64];omega
      go_upto_region 8 with(fail);refine wp_region_lit ?_;refine stL (λK hK=>wp_fa (fa_Nd0 w.heap.size _) (hK _ _ ?_));clear hK K
      try go_simp
      refine stL (λK hK=>wp_ld (p:=.pointer (some ⟨w.heap.size,0,none⟩)) (u:=.int .i64 op) (ld_i _ _ _ (HC3.out.c 0 _ rfl)) (hK _ _ ?_));clear hK K
      try go_simp
      refine wpList_step λK hK=>?_
      go_simp
      refine hK _ _ ?_;clear hK K;refine stL (λK hK=>wp_fa (fa_Nd0 w.heap.size _) (hK _ _ ?_));clear hK K
      try go_simp
      refine stL (λK hK=>?_);refine stCO 0 (u:=.int .i64 (op+1)) (v:=.int .i64 op) HC3.out (st_i _) rfl (NoWord.int64 _) (λX2 BB O=>hK _ _ ?_);have HB2:=hid (show Bk X2 w.heap.size [.int .i64 (op+1),encS nm,.int .i64 (xn),.bool s,.slice a m c,.int .i64 (lo),.int .i64 hi,.slice ao n cp]from BB);have HE2:=hid (show Ext w X2 from O.ext HE1.out (Nat.le_refl _));have HG2:=hid (show Bk X2 (w.heap.size+1) zNd from O.bk HC6.out (by omega));clear hK K BB O
      try go_simp
      refine wpList_nil ?_;go_upto_region 25 with(fail);refine wp_region_lit ?_;refine stL (λK hK=>wp_ld (p:=.pointer (some ⟨w.heap.size,0,none⟩)) (u:=.agg ([.int .i64 (op+1),encS nm,.int .i64 (xn),.bool s,.slice a m c,.int .i64 (lo),.int .i64 hi,.slice ao n cp]).toArray) (ld_Nd _ w.heap.size _ rfl HB2.out) (hK _ _ ?_));clear hK K
      try go_simp
      refine stL (λK hK=>?_);refine stVO (us:= [.int .i64 (op+1),encS nm,.int .i64 (xn),.bool s,.slice a m c,.int .i64 (lo),.int .i64 hi,.slice ao n cp]) HG2.out st_Nd rfl rfl nwZN (λW9 B9 O=>hK _ _ ?_);have E9:Ext w W9:=O.ext HE2.out (Nat.le_succ _)
      have hd9:NdS (λg=>S g∨w.heap.size≤g) W9 y [.int .i64 (op+1),encS nm,.int .i64 (xn),.bool s,.slice a m c,.int .i64 (lo),.int .i64 hi,.slice ao n cp]:=by
        rw[← HO.out];exact chg_mk E9 (HI.out.ext E9) (by have:=HBD.out;exact⟨by omega,by omega,by omega⟩) HN.out HP.out
      clear hK K O;refine wpList_nil ?_;go_wp2_with fail;exact bodyPost_ret (resC Tryz.results11 rfl (lvM (by kernel_rfl) (by kernel_rfl) rfl B9)) rfl ⟨_,rfl,E9,_,rfl,hd9⟩
    · go_upto_region 10 with(fail)
      refine rgs 3 [some 47,some 48,some 49] [IsV (.pointer (some ⟨w.heap.size,1,none⟩)),IsV (encS nm),IsV (encS (nm++ [120]))] [] ?_ ?_ (hst:=by repeat' (first|exact trivial|exact IsV.stb _|exact IsI.stb _ _|apply And.intro))
      · refine Rc (fa (fa_Nd1 w.heap.size) (Od.lit 3)) ?_
        refine Rc (lvC 1 HC3.out ld_str (Od.lc 0 47)) ?_;refine Rc (ct (s:=nm) (t:= [120]) (Od.lc (fP:=IsV (encS nm)) 1 48) Od.con (by have:=HBD.out;simp;omega)) ?_;exact RgAll.nil
      intro u Xa ea hΦ _;have q9:u 2=encS (nm++ [120]):=hΦ 2 (by decide);simp only[layL,Act.put,List.setIfInBounds_toArray,List.set_cons_zero,List.set_cons_succ,Nat.reduceAdd];rw[q9];clear hΦ q9;refine stL (λK hK=>wp_fa (fa_Nd1 w.heap.size _) (hK _ _ ?_));clear hK K
      try go_simp
      refine stL (λK hK=>?_);refine stCO 1 (u:=encS (nm++ [120])) (v:=encS nm) (HC3.out.ext ea) (st_Str _) rfl (NoWord.string _) (λX2 BB O=>hK _ _ ?_);have HB2:=hid (show Bk X2 w.heap.size [.int .i64 (op),encS (nm++ [120]),.int .i64 (xn),.bool s,.slice a m c,.int .i64 (lo),.int .i64 hi,.slice ao n cp]from BB);have HE2:=hid (show Ext w X2 from O.ext (HE1.out.trans ea) (Nat.le_refl _));have HG2:=hid (show Bk X2 (w.heap.size+1) zNd from O.bk (HC6.out.ext ea) (by omega));have HGR:=hid O.gr;clear hK K BB O ea
      try go_simp
      refine wpList_nil ?_;go_upto_region 25 with(fail);refine wp_region_lit ?_;refine stL (λK hK=>wp_ld (p:=.pointer (some ⟨w.heap.size,0,none⟩)) (u:=.agg ([.int .i64 (op),encS (nm++ [120]),.int .i64 (xn),.bool s,.slice a m c,.int .i64 (lo),.int .i64 hi,.slice ao n cp]).toArray) (ld_Nd _ w.heap.size _ rfl HB2.out) (hK _ _ ?_));clear hK K
      try go_simp
      refine stL (λK hK=>?_);refine stVO (us:= [.int .i64 (op),encS (nm++ [120]),.int .i64 (xn),.bool s,.slice a m c,.int .i64 (lo),.int .i64 hi,.slice ao n cp]) HG2.out st_Nd rfl rfl nwZN (λW9 B9 O=>hK _ _ ?_);have E9:Ext w W9:=O.ext HE2.out (Nat.le_succ _)
      have hd9:NdS (λg=>S g∨w.heap.size≤g) W9 y [.int .i64 (op),encS (nm++ [120]),.int .i64 (xn),.bool s,.slice a m c,.int .i64 (lo),.int .i64 hi,.slice ao n cp]:=by
        rw[← HO.out];exact chg_mk E9 (HI.out.ext E9) (by have:=HBD.out;exact⟨by simp;omega,by omega,by omega⟩) HN.out HP.out
      clear hK K O;refine wpList_nil ?_;go_wp2_with fail;exact bodyPost_ret (resC Tryz.results11 rfl (lvM (by kernel_rfl) (by kernel_rfl) rfl B9)) rfl ⟨_,rfl,E9,_,rfl,hd9⟩
    · have hx9:IntKind.i64.wrap (xn+61)=xn+61:=by have:=HBD.out;simp only[IntKind.wrap_i64];omega
      go_upto_region 12 with(fail);refine wp_region_lit ?_;refine stL (λK hK=>wp_fa (fa_Nd2 w.heap.size _) (hK _ _ ?_));clear hK K
      try go_simp
      refine stL (λK hK=>wp_ld (p:=.pointer (some ⟨w.heap.size,2,none⟩)) (u:=.int .i64 xn) (ld_i _ _ _ (HC3.out.c 2 _ rfl)) (hK _ _ ?_));clear hK K
      try go_simp
      refine wpList_step λK hK=>?_
      go_simp
      refine hK _ _ ?_;clear hK K;refine stL (λK hK=>wp_fa (fa_Nd2 w.heap.size _) (hK _ _ ?_));clear hK K
      try go_simp
      refine stL (λK hK=>?_);refine stCO 2 (u:=.int .i64 (xn+61)) (v:=.int .i64 xn) HC3.out (st_i _) rfl (NoWord.int64 _) (λX2 BB O=>hK _ _ ?_);have HB2:=hid (show Bk X2 w.heap.size [.int .i64 (op),encS nm,.int .i64 (xn+61),.bool s,.slice a m c,.int .i64 (lo),.int .i64 hi,.slice ao n cp]from BB);have HE2:=hid (show Ext w X2 from O.ext HE1.out (Nat.le_refl _));have HG2:=hid (show Bk X2 (w.heap.size+1) zNd from O.bk HC6.out (by omega));clear hK K BB O
      try go_simp
      refine wpList_nil ?_;go_upto_region 25 with(fail);refine wp_region_lit ?_;refine stL (λK hK=>wp_ld (p:=.pointer (some ⟨w.heap.size,0,none⟩)) (u:=.agg ([.int .i64 (op),encS nm,.int .i64 (xn+61),.bool s,.slice a m c,.int .i64 (lo),.int .i64 hi,.slice ao n cp]).toArray) (ld_Nd _ w.heap.size _ rfl HB2.out) (hK _ _ ?_));clear hK K
      try go_simp
      refine stL (λK hK=>?_);refine stVO (us:= [.int .i64 (op),encS nm,.int .i64 (xn+61),.bool s,.slice a m c,.int .i64 (lo),.int .i64 hi,.slice ao n cp]) HG2.out st_Nd rfl rfl nwZN (λW9 B9 O=>hK _ _ ?_);have E9:Ext w W9:=O.ext HE2.out (Nat.le_succ _)
      have hd9:NdS (λg=>S g∨w.heap.size≤g) W9 y [.int .i64 (op),encS nm,.int .i64 (xn+61),.bool s,.slice a m c,.int .i64 (lo),.int .i64 hi,.slice ao n cp]:=by
        rw[← HO.out];exact chg_mk E9 (HI.out.ext E9) (by have:=HBD.out;exact⟨by omega,by omega,by omega⟩) HN.out HP.out
      clear hK K O;refine wpList_nil ?_;go_wp2_with fail;exact bodyPost_ret (resC Tryz.results11 rfl (lvM (by kernel_rfl) (by kernel_rfl) rfl B9)) rfl ⟨_,rfl,E9,_,rfl,hd9⟩
    · have hx9:IntKind.i64.wrap (lo+995)=lo+995:=by have:=HBD.out;simp only[IntKind.wrap_i64];omega
      go_upto_region 14 with(fail);refine wp_region_lit ?_;refine stL (λK hK=>wp_fa (fa_Nd4 w.heap.size _) (hK _ _ ?_));clear hK K
      try go_simp
      refine stL (λK hK=>wp_ld (p:=.pointer (some ⟨w.heap.size,5,none⟩)) (u:=.int .i64 lo) (ld_i _ _ _ (HC3.out.c 5 _ rfl)) (hK _ _ ?_));clear hK K
      try go_simp
      refine wpList_step λK hK=>?_
      go_simp
      refine hK _ _ ?_;clear hK K;refine stL (λK hK=>wp_fa (fa_Nd4 w.heap.size _) (hK _ _ ?_));clear hK K
      try go_simp
      refine stL (λK hK=>?_);refine stCO 5 (u:=.int .i64 (lo+995)) (v:=.int .i64 lo) HC3.out (st_i _) rfl (NoWord.int64 _) (λX2 BB O=>hK _ _ ?_);have HB2:=hid (show Bk X2 w.heap.size [.int .i64 (op),encS nm,.int .i64 (xn),.bool s,.slice a m c,.int .i64 (lo+995),.int .i64 hi,.slice ao n cp]from BB);have HE2:=hid (show Ext w X2 from O.ext HE1.out (Nat.le_refl _));have HG2:=hid (show Bk X2 (w.heap.size+1) zNd from O.bk HC6.out (by omega));clear hK K BB O
      try go_simp
      refine wpList_nil ?_;go_upto_region 25 with(fail);refine wp_region_lit ?_;refine stL (λK hK=>wp_ld (p:=.pointer (some ⟨w.heap.size,0,none⟩)) (u:=.agg ([.int .i64 (op),encS nm,.int .i64 (xn),.bool s,.slice a m c,.int .i64 (lo+995),.int .i64 hi,.slice ao n cp]).toArray) (ld_Nd _ w.heap.size _ rfl HB2.out) (hK _ _ ?_));clear hK K
      try go_simp
      refine stL (λK hK=>?_);refine stVO (us:= [.int .i64 (op),encS nm,.int .i64 (xn),.bool s,.slice a m c,.int .i64 (lo+995),.int .i64 hi,.slice ao n cp]) HG2.out st_Nd rfl rfl nwZN (λW9 B9 O=>hK _ _ ?_);have E9:Ext w W9:=O.ext HE2.out (Nat.le_succ _)
      have hd9:NdS (λg=>S g∨w.heap.size≤g) W9 y [.int .i64 (op),encS nm,.int .i64 (xn),.bool s,.slice a m c,.int .i64 (lo+995),.int .i64 hi,.slice ao n cp]:=by
        rw[← HO.out];exact chg_mk E9 (HI.out.ext E9) (by have:=HBD.out;exact⟨by omega,by omega,by omega⟩) HN.out HP.out
      clear hK K O;refine wpList_nil ?_;go_wp2_with fail;exact bodyPost_ret (resC Tryz.results11 rfl (lvM (by kernel_rfl) (by kernel_rfl) rfl B9)) rfl ⟨_,rfl,E9,_,rfl,hd9⟩
    · go_upto_region 16 with(fail)
      obtain⟨M,hM1,hM2,hM3,hM4⟩:=ps_rows (cp:=cp) HN.out.1 HP.out;have HM:=hid (And.intro hM1 (And.intro hM2 hM4));obtain⟨W2,hW2,E2,R2⟩:∃W2,W2=X1.alloc (.cells #[] 32)∧Ext X1 W2∧RwK 32 8 X1.heap.size [] (.slice (some ⟨X1.heap.size,0,none⟩) 0 0) W2:=⟨_,rfl,(Ext.refl _).alloc _,RwN.zero X1⟩;have hM5:=hM3.imp id (λh=>(h.ext HE1.out).ext E2);clear hM1 hM2 hM3 hM4;refine wp_region_lit ?_;refine wpList_step λK hK=>?_
      go_simp
      refine hK _ _ ?_;clear hK K;rw[← hW2];clear hW2;refine stL (λK hK=>wp_fa (fa_Nd6 w.heap.size _) (hK _ _ ?_));clear hK K
      try go_simp
      refine stL (λK hK=>wp_ld (p:=.pointer (some ⟨w.heap.size,7,none⟩)) (u:=.slice ao n cp) (ld_Nds _ _ _ ((HC3.out.ext E2).c 7 _ rfl)) (hK _ _ ?_));clear hK K
      try go_simp
      refine stL (λK hK=>wp_nds (.tmp 65) (.tmp 67) rfl X1.heap.size [] M (.slice (some ⟨X1.heap.size,0,none⟩) 0 0) (.slice ao n cp) rfl rfl R2 HM.out.2.1 hM5 (by have h1:=HM.out.1;have h2:=HLN.out;simp;omega) E2.size (λv8 X8 q1 q2 q3 q4=>hK _ _ ?_));have E8:Ext X1 X8:=Below.grown E2 q2 E2.size (λj hj=>by have:X1.heap.size=j:=(by injection hj);omega);have R8:RwK 32 8 X1.heap.size M v8 X8:=by simpa using q1
      clear hK K q1 q2 q3 q4 R2 E2 hM5
      try go_simp
      refine stL (λK hK=>wp_bd (v:=.agg usZ.toArray) (by simp only[List.map_toArray,List.map_cons,List.map_nil];exact bd_Nd1 _) (hK _ _ ?_) (ho:=rfl));clear hK K
      try go_simp
      refine stL (λK hK=>wp_bs (us:=usZ) rfl rfl (λBn e9 hsr=>hK _ _ ?_));clear hK K;generalize hg9:X8.heap.size=g9 at hsr ⊢;generalize X8.alloc (.cells usZ.toArray 32)=Y9 at e9 hsr ⊢;clear Bn
      try go_simp
      have E9a:Ext X1 Y9:=E8.trans e9;refine stL (λK hK=>wp_nds (.tmp 68) (.tmp 70) rfl X1.heap.size M [usZ] v8 (.slice (some ⟨g9,0,none⟩) 1 1) rfl rfl (R8.ext e9) (λus hu=>by rw[List.mem_singleton.1 hu];exact⟨rfl,nwUsZ,rfl⟩) (.inr (by simpa using hsr)) (by have h1:=HM.out.1;have h2:=HLN.out;simp;omega) E9a.size (λv9 X9 q1 q2 q3 q4=>hK _ _ ?_));have E9b:Ext X1 X9:=Below.grown E9a q2 E9a.size (λj hj=>((World.ownsRow.lt R8.1) j hj).1);obtain⟨r9,cap9,hv9,hr9,hc9,hc9',B9r⟩:=q1.bk (by simp);rw[List.length_append,HM.out.1,List.length_singleton]at hv9 hc9;subst hv9;have hr9l:=B9r.lt;clear hK K q1 q2 q3 q4 R8 E8 e9 hsr E9a hg9
      try go_simp
      refine stL (λK hK=>wp_fa (fa_Nd6 w.heap.size _) (hK _ _ ?_));clear hK K
      try go_simp
      refine stL (λK hK=>?_);refine stCO 7 (u:=.slice (some ⟨r9,0,none⟩) (n+1) cap9) (v:=.slice ao n cp) (HC3.out.ext E9b) (st_Sl _ _ _) rfl (nwSl _ _ _) (λX2 BB O=>hK _ _ ?_);have hszs:=HE1.out.size;have hszX:=HC6.out.lt;have HB2:=hid (show Bk X2 w.heap.size [.int .i64 (op),encS nm,.int .i64 (xn),.bool s,.slice a m c,.int .i64 (lo),.int .i64 hi,.slice (some ⟨r9,0,none⟩) (n+1) cap9]from BB);have HE2:=hid (show Ext w X2 from O.ext (HE1.out.trans E9b) (Nat.le_refl _));have HG2:=hid (show Bk X2 (w.heap.size+1) zNd from O.bk (HC6.out.ext E9b) (by omega));have HR2:=hid (show Bk X2 r9 (M++ [usZ]).flatten∧w.heap.size+1<r9∧n+1≤cap9∧cap9≤9223372036854775807 from⟨O.bk B9r (by omega),by omega,hc9,hc9'⟩);clear hK K BB O E9b hr9 hc9 hc9' B9r hr9l hszs hszX
      try go_simp
      refine wpList_nil ?_;go_upto_region 25 with(fail);refine wp_region_lit ?_;refine stL (λK hK=>wp_ld (p:=.pointer (some ⟨w.heap.size,0,none⟩)) (u:=.agg ([.int .i64 (op),encS nm,.int .i64 (xn),.bool s,.slice a m c,.int .i64 (lo),.int .i64 hi,.slice (some ⟨r9,0,none⟩) (n+1) cap9]).toArray) (ld_Nd _ w.heap.size _ rfl HB2.out) (hK _ _ ?_));clear hK K
      try go_simp
      refine stL (λK hK=>?_);refine stVO (us:= [.int .i64 (op),encS nm,.int .i64 (xn),.bool s,.slice a m c,.int .i64 (lo),.int .i64 hi,.slice (some ⟨r9,0,none⟩) (n+1) cap9]) HG2.out st_Nd rfl rfl nwZN (λW9 B9 O=>hK _ _ ?_);have E9:Ext w W9:=O.ext HE2.out (Nat.le_succ _)
      have hd9:NdS (λg=>S g∨w.heap.size≤g) W9 y [.int .i64 (op),encS nm,.int .i64 (xn),.bool s,.slice a m c,.int .i64 (lo),.int .i64 hi,.slice (some ⟨r9,0,none⟩) (n+1) cap9]:=by
        rw[← HO.out]
        refine ndS_row (M:=M++ [usZ]) (by have:=HBD.out;exact⟨by omega,by omega,by omega⟩) (HI.out.ext E9) ⟨by simp[HN.out.1],HR2.out.2.2.1,HR2.out.2.2.2⟩ (.inr (by have:=HR2.out.2.1;omega)) (O.bk HR2.out.1 (by have:=HR2.out.2.1;omega)) (λus hu=>by
          rcases List.mem_append.1 hu with hu|hu
          ·exact(HM.out.2.1 us hu).1
          ·rw[List.mem_singleton.1 hu];rfl) (λi x hi=>?_)
        rcases Nat.lt_or_ge i ps.length with hlt|hge
        · rw[List.getElem?_append_left hlt]at hi
          obtain⟨us,k1,k2⟩:=HM.out.2.2 i x hi;exact⟨us,by rw[List.getElem?_append_left (by rw[HM.out.1,← HN.out.1];exact hlt)];exact k1,(k2.ext E9).mono (λ_ h=> .inl h)⟩
        · rw [List.getElem?_append_right hge]at hi
          have h0:i-ps.length=0:=by
            have:=(List.getElem?_eq_some_iff.1 hi).1;simp at this;omega
          rw[h0]at hi;obtain rfl:ndE (.num 0)=x:=by simpa using hi
          exact⟨usZ,by rw[List.getElem?_append_right (by rw[HM.out.1,← HN.out.1];exact hge),HM.out.1,← HN.out.1,h0];rfl,ndS_usZ⟩
      clear hK K O;refine wpList_nil ?_;go_wp2_with fail;exact bodyPost_ret (resC Tryz.results11 rfl (lvM (by kernel_rfl) (by kernel_rfl) rfl B9)) rfl ⟨_,rfl,E9,_,rfl,hd9⟩
    · go_upto_region 18 with(fail)
      refine rgs 2 [some 75,some 76] [IsI 2 2,IsI 136 (2^255)] [] ?_ ?_ (hst:=by repeat' (first|exact trivial|exact IsV.stb _|exact IsI.stb _ _|apply And.intro))
      · refine Rc (cl1 (fP:=IsV (.int .i64 2)) (fQ:=IsI 2 2) (en Tryz.func31) Od.con (λx0 w' hE d0=>by{obtain rfl:x0=.int .i64 2:=d0;exact ROf_f w' 2 (by decide) (by decide)})) ?_
        refine Rc (cl2 (fP:=IsI 2 2) (fR:=IsV (.int .i64 ((255:Nat):Int))) (fQ:=IsI 136 (2^255)) (en Tryz.func30) (Od.lc 0 75) Od.con (λx0 y0 w' hE d0 d1=>by{obtain rfl:y0=.int .i64 ((255:Nat):Int):=d1;exact pow136 d0 (by decide)})) ?_;exact RgAll.nil
      intro u Xa ea hΦ _;obtain⟨s2,a2,m2,c22,hu,hI2⟩:=id (hΦ 1 (by decide));have HI2:=hid (show IsI 136 (2^255) (.agg #[.bool s2,.slice a2 m2 c22]) Xa from hu▸hΦ 1 (by decide));simp only[layL,Act.put,List.setIfInBounds_toArray,List.set_cons_zero,List.set_cons_succ,Nat.reduceAdd];rw[hu];clear hΦ hu hI2;refine stL (λK hK=>wp_fa (fa_Nd3 w.heap.size _) (hK _ _ ?_));clear hK K
      try go_simp
      refine stL (λK hK=>?_);obtain⟨X2,hr,O,BB⟩:=st_In3 (s':=s2) (a':=a2) (m':=m2) (c':=c22) (HC3.out.ext ea) nwNd;refine wp_stI hr (hK _ _ ?_);clear hr;have HB2:=hid (show Bk X2 w.heap.size [.int .i64 (op),encS nm,.int .i64 (xn),.bool s2,.slice a2 m2 c22,.int .i64 (lo),.int .i64 hi,.slice ao n cp]from BB);have HE2:=hid (show Ext w X2 from O.ext (HE1.out.trans ea) (Nat.le_refl _));have HG2:=hid (show Bk X2 (w.heap.size+1) zNd from O.bk (HC6.out.ext ea) (by omega));have HGR:=hid O.gr;clear hK K BB O ea
      try go_simp
      refine wpList_nil ?_;go_upto_region 25 with(fail);refine wp_region_lit ?_;refine stL (λK hK=>wp_ld (p:=.pointer (some ⟨w.heap.size,0,none⟩)) (u:=.agg ([.int .i64 (op),encS nm,.int .i64 (xn),.bool s2,.slice a2 m2 c22,.int .i64 (lo),.int .i64 hi,.slice ao n cp]).toArray) (ld_Nd _ w.heap.size _ rfl HB2.out) (hK _ _ ?_));clear hK K
      try go_simp
      refine stL (λK hK=>?_);refine stVO (us:= [.int .i64 (op),encS nm,.int .i64 (xn),.bool s2,.slice a2 m2 c22,.int .i64 (lo),.int .i64 hi,.slice ao n cp]) HG2.out st_Nd rfl rfl nwZN (λW9 B9 O=>hK _ _ ?_);have E9:Ext w W9:=O.ext HE2.out (Nat.le_succ _)
      have hd9:NdS (λg=>S g∨w.heap.size≤g) W9 y [.int .i64 (op),encS nm,.int .i64 (xn),.bool s2,.slice a2 m2 c22,.int .i64 (lo),.int .i64 hi,.slice ao n cp]:=by
        rw[← HO.out];exact chg_mk E9 (IsI.gstb _ _ _ _ _ (HGR.out.trans O.gr) HI2.out) (by have:=HBD.out;exact⟨by omega,by omega,by omega⟩) HN.out HP.out
      clear hK K O;refine wpList_nil ?_;go_wp2_with fail;exact bodyPost_ret (resC Tryz.results11 rfl (lvM (by kernel_rfl) (by kernel_rfl) rfl B9)) rfl ⟨_,rfl,E9,_,rfl,hd9⟩
    · go_upto_region 20 with(fail)
      refine rgs 2 [some 80,some 81] [IsI 2 2,IsI 136 (2^256)] [] ?_ ?_ (hst:=by repeat' (first|exact trivial|exact IsV.stb _|exact IsI.stb _ _|apply And.intro))
      · refine Rc (cl1 (fP:=IsV (.int .i64 2)) (fQ:=IsI 2 2) (en Tryz.func31) Od.con (λx0 w' hE d0=>by{obtain rfl:x0=.int .i64 2:=d0;exact ROf_f w' 2 (by decide) (by decide)})) ?_
        refine Rc (cl2 (fP:=IsI 2 2) (fR:=IsV (.int .i64 ((256:Nat):Int))) (fQ:=IsI 136 (2^256)) (en Tryz.func30) (Od.lc 0 80) Od.con (λx0 y0 w' hE d0 d1=>by{obtain rfl:y0=.int .i64 ((256:Nat):Int):=d1;exact pow136 d0 (by decide)})) ?_;exact RgAll.nil
      intro u Xa ea hΦ _;obtain⟨s2,a2,m2,c22,hu,hI2⟩:=id (hΦ 1 (by decide));have HI2:=hid (show IsI 136 (2^256) (.agg #[.bool s2,.slice a2 m2 c22]) Xa from hu▸hΦ 1 (by decide));simp only[layL,Act.put,List.setIfInBounds_toArray,List.set_cons_zero,List.set_cons_succ,Nat.reduceAdd];rw[hu];clear hΦ hu hI2;refine stL (λK hK=>wp_fa (fa_Nd3 w.heap.size _) (hK _ _ ?_));clear hK K
      try go_simp
      refine stL (λK hK=>?_);obtain⟨X2,hr,O,BB⟩:=st_In3 (s':=s2) (a':=a2) (m':=m2) (c':=c22) (HC3.out.ext ea) nwNd;refine wp_stI hr (hK _ _ ?_);clear hr;have HB2:=hid (show Bk X2 w.heap.size [.int .i64 (op),encS nm,.int .i64 (xn),.bool s2,.slice a2 m2 c22,.int .i64 (lo),.int .i64 hi,.slice ao n cp]from BB);have HE2:=hid (show Ext w X2 from O.ext (HE1.out.trans ea) (Nat.le_refl _));have HG2:=hid (show Bk X2 (w.heap.size+1) zNd from O.bk (HC6.out.ext ea) (by omega));have HGR:=hid O.gr;clear hK K BB O ea
      try go_simp
      refine wpList_nil ?_;go_upto_region 25 with(fail);refine wp_region_lit ?_;refine stL (λK hK=>wp_ld (p:=.pointer (some ⟨w.heap.size,0,none⟩)) (u:=.agg ([.int .i64 (op),encS nm,.int .i64 (xn),.bool s2,.slice a2 m2 c22,.int .i64 (lo),.int .i64 hi,.slice ao n cp]).toArray) (ld_Nd _ w.heap.size _ rfl HB2.out) (hK _ _ ?_));clear hK K
      try go_simp
      refine stL (λK hK=>?_);refine stVO (us:= [.int .i64 (op),encS nm,.int .i64 (xn),.bool s2,.slice a2 m2 c22,.int .i64 (lo),.int .i64 hi,.slice ao n cp]) HG2.out st_Nd rfl rfl nwZN (λW9 B9 O=>hK _ _ ?_);have E9:Ext w W9:=O.ext HE2.out (Nat.le_succ _)
      have hd9:NdS (λg=>S g∨w.heap.size≤g) W9 y [.int .i64 (op),encS nm,.int .i64 (xn),.bool s2,.slice a2 m2 c22,.int .i64 (lo),.int .i64 hi,.slice ao n cp]:=by
        rw[← HO.out];exact chg_mk E9 (IsI.gstb _ _ _ _ _ (HGR.out.trans O.gr) HI2.out) (by have:=HBD.out;exact⟨by omega,by omega,by omega⟩) HN.out HP.out
      clear hK K O;refine wpList_nil ?_;go_wp2_with fail;exact bodyPost_ret (resC Tryz.results11 rfl (lvM (by kernel_rfl) (by kernel_rfl) rfl B9)) rfl ⟨_,rfl,E9,_,rfl,hd9⟩
    · go_upto_region 22 with(fail)
      refine wp_region_lit ?_;refine stL (λK hK=>wp_fa (fa_Nd1 w.heap.size _) (hK _ _ ?_));clear hK K
      try go_simp
      refine stL (λK hK=>?_);refine stCO 1 (u:=.string ⟨#[123,121,125]⟩) (v:=encS nm) HC3.out (st_Str _) rfl (NoWord.string _) (λX2 BB O=>hK _ _ ?_);have HB2:=hid (show Bk X2 w.heap.size [.int .i64 (op),.string ⟨#[123,121,125]⟩,.int .i64 (xn),.bool s,.slice a m c,.int .i64 (lo),.int .i64 hi,.slice ao n cp]from BB);have HE2:=hid (show Ext w X2 from O.ext HE1.out (Nat.le_refl _));have HG2:=hid (show Bk X2 (w.heap.size+1) zNd from O.bk HC6.out (by omega));clear hK K BB O
      try go_simp
      refine wpList_nil ?_;go_upto_region 25 with(fail);refine wp_region_lit ?_;refine stL (λK hK=>wp_ld (p:=.pointer (some ⟨w.heap.size,0,none⟩)) (u:=.agg ([.int .i64 (op),.string ⟨#[123,121,125]⟩,.int .i64 (xn),.bool s,.slice a m c,.int .i64 (lo),.int .i64 hi,.slice ao n cp]).toArray) (ld_Nd _ w.heap.size _ rfl HB2.out) (hK _ _ ?_));clear hK K
      try go_simp
      refine stL (λK hK=>?_);refine stVO (us:= [.int .i64 (op),.string ⟨#[123,121,125]⟩,.int .i64 (xn),.bool s,.slice a m c,.int .i64 (lo),.int .i64 hi,.slice ao n cp]) HG2.out st_Nd rfl rfl nwZN (λW9 B9 O=>hK _ _ ?_);have E9:Ext w W9:=O.ext HE2.out (Nat.le_succ _)
      have hd9:NdS (λg=>S g∨w.heap.size≤g) W9 y [.int .i64 (op),.string ⟨#[123,121,125]⟩,.int .i64 (xn),.bool s,.slice a m c,.int .i64 (lo),.int .i64 hi,.slice ao n cp]:=by
        rw[← HO.out];exact chg_mk E9 (HI.out.ext E9) (by have:=HBD.out;exact⟨by simp,by omega,by omega⟩) HN.out HP.out
      clear hK K O;refine wpList_nil ?_;go_wp2_with fail;exact bodyPost_ret (resC Tryz.results11 rfl (lvM (by kernel_rfl) (by kernel_rfl) rfl B9)) rfl ⟨_,rfl,E9,_,rfl,hd9⟩
    · go_upto_region 24 with(fail)
      refine wp_region_lit ?_;refine stL (λK hK=>wp_fa (fa_Nd1 w.heap.size _) (hK _ _ ?_));clear hK K
      try go_simp
      refine stL (λK hK=>?_);refine stCO 1 (u:=.string ⟨#[]⟩) (v:=encS nm) HC3.out (st_Str _) rfl (NoWord.string _) (λX2 BB O=>hK _ _ ?_);have HB2:=hid (show Bk X2 w.heap.size [.int .i64 (op),.string ⟨#[]⟩,.int .i64 (xn),.bool s,.slice a m c,.int .i64 (lo),.int .i64 hi,.slice ao n cp]from BB);have HE2:=hid (show Ext w X2 from O.ext HE1.out (Nat.le_refl _));have HG2:=hid (show Bk X2 (w.heap.size+1) zNd from O.bk HC6.out (by omega));clear hK K BB O
      try go_simp
      refine wpList_nil ?_;go_upto_region 25 with(fail);refine wp_region_lit ?_;refine stL (λK hK=>wp_ld (p:=.pointer (some ⟨w.heap.size,0,none⟩)) (u:=.agg ([.int .i64 (op),.string ⟨#[]⟩,.int .i64 (xn),.bool s,.slice a m c,.int .i64 (lo),.int .i64 hi,.slice ao n cp]).toArray) (ld_Nd _ w.heap.size _ rfl HB2.out) (hK _ _ ?_));clear hK K
      try go_simp
      refine stL (λK hK=>?_);refine stVO (us:= [.int .i64 (op),.string ⟨#[]⟩,.int .i64 (xn),.bool s,.slice a m c,.int .i64 (lo),.int .i64 hi,.slice ao n cp]) HG2.out st_Nd rfl rfl nwZN (λW9 B9 O=>hK _ _ ?_);have E9:Ext w W9:=O.ext HE2.out (Nat.le_succ _)
      have hd9:NdS (λg=>S g∨w.heap.size≤g) W9 y [.int .i64 (op),.string ⟨#[]⟩,.int .i64 (xn),.bool s,.slice a m c,.int .i64 (lo),.int .i64 hi,.slice ao n cp]:=by
        rw[← HO.out];exact chg_mk E9 (HI.out.ext E9) (by have:=HBD.out;exact⟨by simp,by omega,by omega⟩) HN.out HP.out
      clear hK K O;refine wpList_nil ?_;go_wp2_with fail;exact bodyPost_ret (resC Tryz.results11 rfl (lvM (by kernel_rfl) (by kernel_rfl) rfl B9)) rfl ⟨_,rfl,E9,_,rfl,hd9⟩
    · go_upto_region 25 with(fail)
      refine wp_region_lit ?_;refine stL (λK hK=>wp_ld (p:=.pointer (some ⟨w.heap.size,0,none⟩)) (u:=.agg ([.int .i64 (op),encS nm,.int .i64 (xn),.bool s,.slice a m c,.int .i64 (lo),.int .i64 hi,.slice ao n cp]).toArray) (ld_Nd _ w.heap.size _ rfl HC3.out) (hK _ _ ?_));clear hK K
      try go_simp
      refine stL (λK hK=>?_);refine stVO (us:= [.int .i64 (op),encS nm,.int .i64 (xn),.bool s,.slice a m c,.int .i64 (lo),.int .i64 hi,.slice ao n cp]) HC6.out st_Nd rfl rfl nwZN (λW9 B9 O=>hK _ _ ?_);have E9:Ext w W9:=O.ext HE1.out (Nat.le_succ _)
      have hd9:NdS (λg=>S g∨w.heap.size≤g) W9 y [.int .i64 (op),encS nm,.int .i64 (xn),.bool s,.slice a m c,.int .i64 (lo),.int .i64 hi,.slice ao n cp]:=by
        rw[← HO.out];exact chg_mk E9 (HI.out.ext E9) (by have:=HBD.out;exact⟨by omega,by omega,by omega⟩) HN.out HP.out
      clear hK K O;refine wpList_nil ?_;go_wp2_with fail;exact bodyPost_ret (resC Tryz.results11 rfl (lvM (by kernel_rfl) (by kernel_rfl) rfl B9)) rfl ⟨_,rfl,E9,_,rfl,hd9⟩
theorem changed_f:∀ f,f≤20→ChC f
  |0,_=>changed_s 0 (by decide) (hid λf' h=>absurd h (by omega))
  | f + 1, h => changed_s (f + 1) h (hid fun f' e => by obtain rfl:f =f':=by omega
                                                        exact changed_f f (by omega))
end
end Go.Proofs.YtenhciieboegbaaGreatDoor
