/-
  The law NotebookMatchesReference at every input. (Printed by wip/gen/nmm.py.)
-/
import Derived.Test.YtenhciieboegbaaGreatDoorNcg
namespace Go.Proofs.YtenhciieboegbaaGreatDoor
open Go Go.RowKit Go.Maps
theorem flat_idxK{k:Nat}(hk:0<k):∀ {M:List (List Value)},(∀us∈M,us.length=k)→ ∀j,M.flatten[j]? =(M[j/k]?).bind (λus=>us[j%k]?)
  | [],_,j=>by simp
  | us ::M,h,j=>by
    have h8:=h us (by simp);rw[List.flatten_cons];rcases Nat.lt_or_ge j k with hlt|hge
    ·rw[List.getElem?_append_left (by omega),Nat.div_eq_of_lt hlt,Nat.mod_eq_of_lt hlt];rfl
    · rw[List.getElem?_append_right (by omega),h8,flat_idxK hk (λvs hv=>h vs (by simp[hv])) (j-k)]
      rw[Nat.div_eq_sub_div hk hge,Nat.mod_eq_sub_mod hge,List.getElem?_cons_succ]
structure CsM (l:List Cl) (M:List (List Value)) (w:World):Prop where
  n:M.length=l.length
  k:∀us∈M,us.length=9∧(∀v∈us,NoWord v)∧us.all (λu=>u.oneCell')=true
  c:∀(i:Nat) (c:Cl),l[i]? =some c→ ∃us:List Value,M[i]? =some (encS c.nm ::us)∧NdC 0 w c.e us
theorem CsM.ext{l:List Cl}{M:List (List Value)}{w w':World}(h:CsM l M w)(e:Ext w w'):CsM l M w':=⟨h.n,h.k,λi c hi=>let ⟨us,q1,q2⟩:=h.c i c hi;⟨us,q1,q2.ext e⟩⟩
theorem CsM.is{l:List Cl}{M:List (List Value)}{w:World}{r cap:Nat}(h:CsM l M w)(B:Bk w r M.flatten)(hc:l.length≤cap)(hc2:cap≤9223372036854775807):IsCs 0 l (.slice (some ⟨r,0,none⟩) l.length cap) w:=by
  refine⟨_,cap,rfl,hc,hc2,λ_=>⟨r,0,rfl,Nat.zero_le _,λi c hi=>?_⟩⟩;obtain⟨us,q1,q2⟩:=h.c i c hi;have h9:∀us∈M,us.length=9:=λus hu=>(h.k us hu).1
  refine⟨us,λj u hj=>?_,q2,?_⟩
  · have:=B.c _ u (flat_atK h9 q1 (q:=j+1) (by simpa using hj))
    rwa [show 0+9*i+1+j=9*i+(j+1)by omega]
  · have:=B.c _ (encS c.nm) (flat_atK h9 q1 (q:=0) rfl)
    rwa [show 0+9*i=9*i+0 by omega]
theorem CsM.set{l:List Cl}{M:List (List Value)}{w w':World}{i:Nat}{x:Cl}{us:List Value}(h:CsM l M w)(hk:∀(c:Cl) (us:List Value),c∈l→NdC 0 w c.e us→NdC 0 w' c.e us)(hi:i<l.length)(hx:NdC 0 w' x.e us):CsM (l.set i x) (M.set i (encS x.nm ::us)) w':=by
  refine⟨by rw[List.length_set,List.length_set,h.n],λvs hv=>?_,λj c hj=>?_⟩
  · rcases List.mem_or_eq_of_mem_set hv with hv|rfl
    ·exact h.k vs hv
    · refine⟨by rw[List.length_cons,hx.len],λv hv=>?_,by rw[List.all_cons,hx.nw.2];rfl⟩
      rcases List.mem_cons.1 hv with rfl|hv
      ·exact NoWord.string _
      ·exact hx.nw.1 v hv
  · by_cases e:j=i
    · subst e
      rw[List.getElem?_set_self hi]at hj;cases hj;exact⟨us,List.getElem?_set_self (by rw[h.n];exact hi),hx⟩
    · rw[List.getElem?_set_ne (Ne.symm e)]at hj
      obtain⟨vs,q1,q2⟩:=h.c j c hj;exact⟨vs,by rw[List.getElem?_set_ne (Ne.symm e)];exact q1,hk c vs (List.mem_of_getElem? hj) q2⟩
theorem flat9{l:List Cl}{M:List (List Value)}{w:World}(h:CsM l M w):M.flatten.length=M.length*9:=flat_lenK (λr hr=>(h.k r hr).1)
theorem st_nm{l:List Cl}{M:List (List Value)}{W:World}{r i:Nat}{c:Cl}{us:List Value}{s:List UInt8}(h:CsM l M W)(B:Bk W r M.flatten)(_hi:l[i]? =some c)(hu:M[i]? =some (encS c.nm ::us)):
    ∃W',(Instr.storeAt 9 (.pointer (some ⟨r,9*i,none⟩)) (encS s)).run Tryz.prog W=.ok () W'∧OnlyB r W W'∧Bk W' r (M.set i (encS s ::us)).flatten:=by
  have h9:∀us∈M,us.length=9:=λus hu=>(h.k us hu).1
  have hul:us.length=8:=by have:=h9 _ (List.mem_of_getElem? hu);simpa using this
  have hiM:i<M.length:=(List.getElem?_eq_some_iff.1 hu).1
  have h9':∀vs∈M.set i (encS s ::us),vs.length=9:=λvs h=>by
    rcases List.mem_or_eq_of_mem_set h with h|rfl
    ·exact h9 vs h
    ·simp[hul]
  have hold:M.flatten[9*i]? =some (encS c.nm):=by have:=flat_atK h9 hu (q:=0) rfl;simpa using this
  have hlt:9*i<M.flatten.length:=(List.getElem?_eq_some_iff.1 hold).1;obtain⟨O,B'⟩:=B.setO (9*i) hlt (encS s) (by rw[(List.getElem?_eq_some_iff.1 hold).2];exact NoWord.string _)
  have hcs:M.flatten.set (9*i) (encS s)=(M.set i (encS s ::us)).flatten:=by
    apply List.ext_getElem?;intro j;rw[flat_idxK (by decide) h9'];by_cases h1:9*i=j
    · subst h1
      rw[List.getElem?_set_self hlt,show 9*i/9=i by omega,List.getElem?_set_self hiM,show 9*i%9=0 by omega];rfl
    · rw [List.getElem?_set_ne h1,flat_idxK (by decide) h9]
      by_cases h2:j/9=i
      · rw[h2,List.getElem?_set_self hiM,hu]
        show(encS c.nm ::us)[j%9]? =(encS s ::us)[j%9]?;obtain⟨q,hq⟩:∃q,j%9=q+1:=⟨j%9-1,by omega⟩;rw[hq];rfl
      ·rw[List.getElem?_set_ne (Ne.symm h2)]
  rw[hcs]at B';exact⟨_,st_Str _ W _ _ (B.c _ _ hold) (B.f _),O,B'⟩
theorem st_nd9{l:List Cl}{M:List (List Value)}{W:World}{r i:Nat}{c:Cl}{us us':List Value}(h:CsM l M W)(B:Bk W r M.flatten)(hu:M[i]? =some (encS c.nm ::us))(hu':us'.length=8∧(∀v∈us',NoWord v)∧us'.all (λu=>u.oneCell')=true):
    ∃W',(Instr.storeAt 32 (.pointer (some ⟨r,9*i+1,none⟩)) (.agg us'.toArray)).run Tryz.prog W=.ok () W'∧OnlyB r W W'∧Bk W' r (M.set i (encS c.nm ::us')).flatten:=by
  have h9:∀us∈M,us.length=9:=λus hu=>(h.k us hu).1
  have hul:us.length=8:=by have:=h9 _ (List.mem_of_getElem? hu);simpa using this
  have hiM:i<M.length:=(List.getElem?_eq_some_iff.1 hu).1
  have h9':∀vs∈M.set i (encS c.nm ::us'),vs.length=9:=λvs h=>by
    rcases List.mem_or_eq_of_mem_set h with h|rfl
    ·exact h9 vs h
    ·simp[hu'.1]
  have hlen:=flat9 h
  obtain⟨cs',O,B',hl,_,hj⟩:=B.ovr us' (9*i+1) (by rw[hlen,hu'.1];omega) (λv hv=>by
    obtain⟨vs,q1,q2⟩:=List.mem_flatten.1 hv
    exact(h.k vs q1).2.1 v q2) hu'.2.1
  have hcs:cs'=(M.set i (encS c.nm ::us')).flatten:=by
    apply List.ext_getElem?;intro j;rw[hj j,flat_idxK (by decide) h9',hu'.1];by_cases h1:9*i+1≤j∧j<9*i+1+8
    · rw[if_pos h1,show j/9=i by omega,List.getElem?_set_self hiM]
      show us'[j-(9*i+1)]? =(encS c.nm ::us')[j%9]?;rw[show j%9=(j-(9*i+1))+1 by omega,List.getElem?_cons_succ]
    · rw [if_neg h1,flat_idxK (by decide) h9]
      by_cases h2:j/9=i
      · rw[h2,List.getElem?_set_self hiM,hu]
        show(encS c.nm ::us)[j%9]? =(encS c.nm ::us')[j%9]?;rw[show j%9=0 by omega];rfl
      ·rw[List.getElem?_set_ne (Ne.symm h2)]
  rw[hcs]at B';refine⟨_,?_,O,B'⟩
  have ht:W.there r (9*i+1) us'.toArray.size:=λj hj2=>by
    have hj':j<8:=by simpa [hu'.1]using hj2
    exact⟨by rw[B.c (9*i+1+j) _ (List.getElem?_eq_getElem (by rw[hlen];omega))];rfl,B.f (9*i+1+j)⟩
  rw[run_storeAt_mid W r (9*i+1) 32 us'.toArray ht (by simp only[List.size_toArray];rw[hu'.1];kernel_rfl) (by simpa using hu'.2.2),setCellsL]
theorem wp_cls{w:World}{o:Oper}{a:Act}{Q:Exit→Act→World→Prop}{K:Act→World→Prop}(s x:Operand)
    (ho:o.op=.call {callee:=.builtin .append,args:= #[s,x],argTypes:= #[25,25]}) (base:Nat) (M:List (List Value)) (v xv:Value) (hs:a.eval s=v) (hx:a.eval x=xv) (hI:RwK 34 9 base [] v w) (hM:∀us∈M,us.length=9∧(∀v∈us,NoWord v)∧us.all (λu=>u.oneCell')=true)
    (hsrc:SrcR M.length M.flatten xv w) (hl:M.length≤1000000) (hbase:base≤w.heap.size)
    (h:∀v' w',RwK 34 9 base M v' w'→w.grownBy w' v.ownBlock→Gr w w'→Below base w w'→K (a.put o.dst v') w'):Oper.wp Tryz.prog o a w K Q:=by
  obtain⟨bytes,hi,hb⟩:=infoCl;refine wp_rwnS s x 25 ho base 34 (.agg zCl.toArray) 9 bytes (by kernel_rfl) hi rfl (by decide) (λu hu=>nwZCl u (by simpa [Value.cells]using hu)) v 0 [] hs hI.1 hI.2 M.length M.flatten xv hx (flat_lenK λus hu=>(hM us hu).1) hsrc (λu hu=>?_) (λu hu=>?_) (by omega) (by have:=Nat.mul_le_mul (show 0+M.length≤1000000 by omega) hb;omega) hbase ?_
  · obtain⟨us,h1,h2⟩:=List.mem_flatten.1 hu
    exact List.all_eq_true.1 (hM us h1).2.2 u h2
  · obtain⟨us,h1,h2⟩:=List.mem_flatten.1 hu
    exact(hM us h1).2.1 u h2
  · intro v' w' r1 r2 r3 r4 r5 r6
    exact h v' w' ⟨by simpa using r1,r2⟩ r3 r4 r5
theorem ix_Cl0(g c n j:Nat)(h:j<n)(w:World):(Instr.indexAt 25 (.slice (some ⟨g,0,none⟩) n c) (.int .i64 (j:Int))).run Tryz.prog w=.ok (.pointer (some ⟨g,9*j,none⟩)) w:=by have h1:=ix_Cl g 0 c n j h w;rwa [Nat.zero_add]at h1
theorem ix_3(g j:Nat)(h:j<3)(w:World):(Instr.indexAt 23 (.pointer (some ⟨g,0,none⟩)) (.int .i64 (j:Int))).run Tryz.prog w=.ok (.pointer (some ⟨g,j,none⟩)) w:=by
  rcases(by omega:j=0∨j=1∨j=2)with rfl|rfl|rfl <;> go_simp
theorem ld_u8(w:World)(a:Addr)(v:Value)(h:World.cell? w a=some v):(Instr.loadAt 5 (.pointer (some a))).run Tryz.prog w=.ok v w:=by go_simp
section
variable {ops:Array Oper} {Q:Exit→Act→World→Prop} {ds:List (Option Tmp)} {a0:Act} {w0:World} {L:List (Value→World→Prop)} {boxes:List Nat} {i k:Nat} {o:Oper} {os:List Oper}
theorem cvU{x:Operand}{n:Nat}(hx:Od ops ds a0 w0 L i x (IsV (.int .u8 (n:Int))))(hn:n≤255)(ho:o.op=.convert 5 3 x:=by rfl)(hi:L.getD i (λ_ _=>True)=IsV (.int .i64 (n:Int)):=by kernel_rfl)(hb:boxes.contains i=false:=by kernel_rfl):Ok Tryz.prog ops Q ds a0 w0 L boxes i o:=
  Ok.of hb λv a w hE hd hf=>by
    have h1:a.eval x=.int .u8 (n:Int):=hx.out v a w hE hd hf;have hw:IntKind.i64.wrap (n:Int)=(n:Int):=by simp only[IntKind.wrap_i64];omega
    refine⟨_,?_,by rw[hi];exact rfl⟩;unfold execOp;rw[ho];dsimp only;rw[h1]
    go_simp
end
theorem IsCh.stb(S:Nat→Prop)(N:Nat)(y:Nd):Stb (IsCh S N y):=λ_ _ _ e ⟨us,h1,h2⟩=>⟨us,h1,h2.ext e⟩
theorem MdL.lm{l:List Cl}(h:MdL l):LmL l:=⟨by have:=h.1;omega,h.ok.2.2,λc hc=>hg_le (by decide) (sz_hg (trC_sz (h.2.2 c hc)))⟩
theorem lm_set{l:List Cl}{i:Nat}{x:Cl}(h:LmL l)(hx:x.nm.length≤1000000∧hgN 100 x.e):LmL (l.set i x):=by
  refine⟨by rw[List.length_set];exact h.1,λc hc=>?_,λc hc=>?_⟩
  · rcases List.mem_or_eq_of_mem_set hc with hc|rfl
    ·exact h.2.1 c hc
    ·exact hx.1
  · rcases List.mem_or_eq_of_mem_set hc with hc|rfl
    ·exact h.2.2 c hc
    ·exact hx.2
section
set_option maxRecDepth 100000
set_option maxHeartbeats 16000000
theorem Matches_w{w:World}{v1:Value}{s:List UInt8}{n0 n1 n2:Nat}(hT:TabM w)(hb:IsBys v1 w)(hsz:s.length≤9223372036854775807)(h0:n0≤255)(h1:n1≤255)(h2:n2≤255):Calls Tryz.prog 3 #[v1,encS s,.agg #[.int .u8 (n0:Int),.int .u8 (n1:Int),.int .u8 (n2:Int)]] w (Ret w (IsV (.bool true))):=by
  obtain⟨W,hW,E,BN⟩:∃W,W=w.alloc (.cells #[.int .u8 (n0:Int),.int .u8 (n1:Int),.int .u8 (n2:Int)] 23)∧Ext w W∧Bk W w.heap.size [.int .u8 (n0:Int),.int .u8 (n1:Int),.int .u8 (n2:Int)]:=⟨_,rfl,(Ext.refl w).alloc _,Bk.new w _ _⟩;have HT:=hid (hT.ext E);have HB:=hid (hb.ext E);have HE:=hid E;have HBN:=hid BN;have HNN:=hid (show n0≤255∧n1≤255∧n2≤255 from⟨h0,h1,h2⟩);obtain⟨sb,hsb⟩:∃y:ByteArray,(⟨s.toArray⟩:ByteArray)=y:=⟨_,rfl⟩;obtain⟨ns,hns⟩:∃n,s.length=n:=⟨_,rfl⟩;have hsbs:sb.size=ns:=by rw[← hsb,← hns];rfl
  have HSB:=hid (And.intro hsb (And.intro hns hsz));rw[encS,hsb];clear hT hb E BN h0 h1 h2 hsz hsb hns;go_enter Tryz.func3,Tryz.ntmps3;go_upto_region 1 with(fail);rw[← hW];clear hW;go_upto_region 4 with(go_at_call 9;refine Calls.mono (examples_f HT.out) ?_;rintro e w1 ⟨x,rfl,e1,hx⟩;obtain rfl:x=.bool true:=hx;have e1:=hid e1);refine wp_region_lit ?_;refine stL (λK hK=>wp_mv (hK _ _ ?_));clear hK K
  try go_simp
  refine stL (λK hK=>?_);refine wp_callN (us:= [v1]) (en Tryz.func10) (by kernel_rfl) (Made_s (HB.out.ext e1.out)) (λu w2 h=>hK _ _ ?_) (λch X h=>by{obtain⟨x,hx,_⟩:=h;cases hx}) (λX h=>by{obtain⟨x,hx,_⟩:=h;cases hx});clear hK K;obtain⟨u',hcas,e2,l,M,hl,hc,hs,hm,hv⟩:=h;cases hcas;obtain⟨a8,n8,c8,hu8⟩:∃a n c,u=.slice a n c:=let ⟨ao,c,h,_⟩:=hc;⟨ao,_,c,h⟩
  have hn8:n8=l.length:=by obtain⟨ao,cc,h,-⟩:=hc;rw[hu8]at h;injection h
  have HE2:=hid (e1.out.trans e2);have HL:=hid (show MdL l∧n8=l.length from⟨hl,hn8⟩);have HC:=hid (show IsCs 0 l u w2 from hc.low (Nat.zero_le _));have HS:=hid (show SrcR M.length M.flatten u w2 from by rw[hm];exact hs)
  have HM:=hid (show CsM l M w2 from⟨hm,λus hu=>by
    obtain⟨j,hj⟩:=List.getElem?_of_mem hu;have hjl:j<l.length:=by rw[← hm];exact(List.getElem?_eq_some_iff.1 hj).1
    obtain⟨vs,q1,q2⟩:=hv j l[j] (List.getElem?_eq_getElem hjl);rw[hj]at q1;cases q1;refine⟨by rw[List.length_cons,q2.len],λv hv=>?_,by rw[List.all_cons,q2.nw.2];rfl⟩;rcases List.mem_cons.1 hv with rfl|hv
    ·exact NoWord.string _
    ·exact q2.nw.1 v hv,λj c hj=>let ⟨vs,q1,q2⟩:=hv j c hj;⟨vs,q1,NdC.low (Nat.zero_le _) _ _ q2⟩⟩)
  subst hu8;clear e1 e2 hl hc hs hm hv hn8
  try go_simp
  refine stL (λK hK=>wp_mv (hK _ _ ?_));clear hK K
  try go_simp
  refine wpList_nil ?_;by_cases hlen:ns≤30∧n8≠0
  · have hl30:¬(30:Int)<(ns:Int):=by omega
    have hz8:((n8:Int)==0)=false:=by simp;omega
    have hn80:¬(n8:Int)=0:=by omega
    have hn81:¬n8=0:=by omega
    have HLN:=hid (show ns≤30∧n8≤4∧n8≠0 from⟨hlen.1,by have h1:=HL.out.1.1;have h2:=HL.out.2;omega,hlen.2⟩);obtain⟨i,hi0⟩:∃i,n0%n8=i:=⟨_,rfl⟩;have hil:i<n8:=by rw[← hi0];exact Nat.mod_lt _ (by omega)
    have htm:Int.tmod (n0:Int) (n8:Int)=(i:Int):=by rw[← hi0];rfl
    have hwi:IntKind.i64.wrap (i:Int)=(i:Int):=by have:=HLN.out;simp only[IntKind.wrap_i64];omega
    have hw0:IntKind.i64.wrap (n0:Int)=(n0:Int):=by have:=HNN.out;simp only[IntKind.wrap_i64];omega
    have HIL:=hid hil;have B2:=HBN.out.ext HE2.out;have c0:=B2.c 0 _ rfl;clear hlen hi0 hil B2;go_upto_region 8 with(fail);clear c0 hl30 hz8 htm hwi hw0 hn80 hn81;refine wp_region_lit ?_;obtain⟨W3,hW3,E3,R3⟩:∃W3,W3=w2.alloc (.cells #[] 34)∧Ext w2 W3∧RwK 34 9 w2.heap.size [] (.slice (some ⟨w2.heap.size,0,none⟩) 0 0) W3:=⟨_,rfl,(Ext.refl _).alloc _,RwC.zero w2⟩;refine wpList_step λK hK=>?_
    go_simp
    refine hK _ _ ?_;clear hK K;rw[← hW3];clear hW3;refine stL (λK hK=>wp_mv (hK _ _ ?_));clear hK K
    try go_simp
    refine stL (λK hK=>wp_cls (.tmp 34) (.tmp 35) rfl w2.heap.size M (.slice (some ⟨w2.heap.size,0,none⟩) 0 0) (.slice a8 n8 c8) rfl rfl R3 HM.out.k (HS.out.ext E3) (by have h1:=HM.out.n;have h2:=HL.out;have h3:=HLN.out;omega) E3.size (λvx Xx q1 q2 q3 q4=>hK _ _ ?_));have Ea:Ext w2 Xx:=Below.grown E3 q2 E3.size (λj hj=>by have:w2.heap.size=j:=(by injection hj);omega);obtain⟨r1,cap1,hvx,hr1,hc1,hc1',B1⟩:=q1.bk (by rw[HM.out.n,← HL.out.2];exact HLN.out.2.2);rw[HM.out.n,← HL.out.2]at hvx hc1;subst hvx;clear hK K q1 q2 q3 q4 R3 E3
    try go_simp
    obtain⟨W3,hW3,E3,R3⟩:∃W3,W3=Xx.alloc (.cells #[] 34)∧Ext Xx W3∧RwK 34 9 Xx.heap.size [] (.slice (some ⟨Xx.heap.size,0,none⟩) 0 0) W3:=⟨_,rfl,(Ext.refl _).alloc _,RwC.zero Xx⟩;refine wpList_step λK hK=>?_
    go_simp
    refine hK _ _ ?_;clear hK K;rw[← hW3];clear hW3;refine stL (λK hK=>wp_mv (hK _ _ ?_));clear hK K
    try go_simp
    refine stL (λK hK=>wp_cls (.tmp 37) (.tmp 38) rfl Xx.heap.size M (.slice (some ⟨Xx.heap.size,0,none⟩) 0 0) (.slice a8 n8 c8) rfl rfl R3 HM.out.k ((HS.out.ext Ea).ext E3) (by have h1:=HM.out.n;have h2:=HL.out;have h3:=HLN.out;omega) E3.size (λvx Xy q1 q2 q3 q4=>hK _ _ ?_));have Eb:Ext Xx Xy:=Below.grown E3 q2 E3.size (λj hj=>by have:Xx.heap.size=j:=(by injection hj);omega);obtain⟨r2,cap2,hvx,hr2,hc2,hc2',B2⟩:=q1.bk (by rw[HM.out.n,← HL.out.2];exact HLN.out.2.2);rw[HM.out.n,← HL.out.2]at hvx hc2;subst hvx;clear hK K q1 q2 q3 q4 R3 E3
    try go_simp
    refine stL (λK hK=>wp_mv (hK _ _ ?_));clear hK K
    try go_simp
    refine stL (λK hK=>wp_mv (hK _ _ ?_));clear hK K
    try go_simp
    refine wpList_nil ?_;have hr1l:=B1.lt;have HR:=hid (show Bk Xy r1 M.flatten∧Bk Xy r2 M.flatten∧w2.heap.size≤r1∧r1<r2∧(n8≤cap1∧cap1≤9223372036854775807)∧(n8≤cap2∧cap2≤9223372036854775807)from⟨B1.ext Eb,B2,hr1,by omega,⟨hc1,hc1'⟩,⟨hc2,hc2'⟩⟩);have HE3:=hid (Ea.trans Eb);clear Ea Eb B1 B2 hr1 hr2 hc1 hc1' hc2 hc2' hr1l;obtain⟨ci,hci⟩:∃c,l[i]? =some c:=⟨_,List.getElem?_eq_getElem (by rw[← HL.out.2];exact HIL.out)⟩;obtain⟨usi,hus,hds⟩:=HM.out.c i ci hci;have HCI:=hid (And.intro hci (And.intro hus hds));clear hci hus hds;go_upto_region 9 with(fail);refine wp_region_lit ?_;refine stL (λK hK=>wp_mv (hK _ _ ?_));clear hK K
    try go_simp
    refine stL (λK hK=>wp_mv (hK _ _ ?_));clear hK K
    try go_simp
    refine stL (λK hK=>wp_mv (hK _ _ ?_));clear hK K
    try go_simp
    refine stL (λK hK=>wp_ixA (p:=.slice (some ⟨r1,0,none⟩) n8 cap1) (u:=.int .i64 (i:Int)) (ix_Cl r1 0 cap1 n8 i HIL.out _) (hK _ _ ?_));clear hK K;simp only[Nat.zero_add];refine stL (λK hK=>wp_fa (fa_Cl0 r1 (9*i) _) (hK _ _ ?_));clear hK K
    try go_simp
    refine stL (λK hK=>?_);obtain⟨Xz,hr,O,BB⟩:=st_nm (s:=s) (HM.out.ext HE3.out) HR.out.1 HCI.out.1 HCI.out.2.1;rw[encS,HSB.out.1]at hr;refine wp_stI hr (hK _ _ ?_);clear hr;have HR2:=hid (show Bk Xz r1 (M.set i (encS s ::usi)).flatten∧Bk Xz r2 M.flatten∧Ext w2 Xz from⟨BB,O.bk HR.out.2.1 (by have:=HR.out.2.2.2.1;omega),O.ext HE3.out HR.out.2.2.1⟩);clear hK K BB O HE3
    try go_simp
    refine wpList_nil ?_;go_upto_region 10 with(fail);obtain⟨kk,hkk⟩:∃k,n2%10=k:=⟨_,rfl⟩;have HKK:=hid (show kk≤9∧Int.tmod (n2:Int) 10=(kk:Int)∧IntKind.u8.wrap (kk:Int)=(kk:Int)from⟨by omega,by rw[← hkk];rfl,by rw[IntKind.wrap_u8];omega⟩);have HBX:=hid ((HBN.out.ext HE2.out).ext HR2.out.2.2);clear hkk;refine rg 17 [some 45,some 46,some 47,some 48,some 49,some 50,some 51,some 52,some 53,some 54,some 55,some 56,some 57,some 58,some 59,some 60,some 61] [IsV (.slice (some ⟨r2,0,none⟩) n8 cap2),IsV (.int .i64 (i:Int)),IsV (.slice (some ⟨r2,0,none⟩) n8 cap2),IsV (.int .i64 (i:Int)),IsV (.pointer (some ⟨r2,9*i,none⟩)),IsV (.pointer (some ⟨r2,9*i+1,none⟩)),IsV (.agg usi.toArray),IsV (.pointer (some ⟨w.heap.size,1,none⟩)),IsV (.int .u8 (n1:Int)),IsV (.int .i64 (n1:Int)),IsV (.pointer (some ⟨w.heap.size,2,none⟩)),IsV (.int .u8 (n2:Int)),IsV (.int .u8 (kk:Int)),IsV (.int .i64 (kk:Int)),IsCh (λg=>0≤g∧g<w2.heap.size) Xz.heap.size (chN 9 n1 kk ci.e),IsV (.pointer (some ⟨r2,9*i,none⟩)),IsV (.pointer (some ⟨r2,9*i+1,none⟩))] [] 1 ?_ ?_ (hst:=by repeat' (first|exact trivial|exact IsV.stb _|exact IsCh.stb _ _ _|apply IsIf.stb|apply And.intro))
    · refine Rc (mv (Od.lit (x:=.slice (some ⟨r2,0,none⟩) n8 cap2) 11)) ?_
      refine Rc (mv (Od.lit (x:=.int .i64 (i:Int)) 9)) ?_;refine Rc (mv (Od.lit (x:=.slice (some ⟨r2,0,none⟩) n8 cap2) 11)) ?_;refine Rc (mv (Od.lit (x:=.int .i64 (i:Int)) 9)) ?_;refine Rc (ixq (ix_Cl0 r2 cap2 n8 i HIL.out) (Od.lc (fP:=IsV (.slice (some ⟨r2,0,none⟩) n8 cap2)) 2 47) (Od.lc (fP:=IsV (.int .i64 (i:Int))) 3 48)) ?_;refine Rc (fa (fa_Cl1 r2 (9*i)) (Od.lc 4 49)) ?_;refine Rc (lv (fP:=IsV (.agg usi.toArray)) _ (λw' e=>ldM (by kernel_rfl) (by kernel_rfl) HCI.out.2.2.len (λj v hj=>by have h:=(HR2.out.2.1.ext e).c _ v (flat_atK (λus hu=>(HM.out.k us hu).1) HCI.out.2.1 (q:=j+1) (by simpa using hj));rwa [show 9*i+(j+1)=9*i+1+j by omega]at h)) (Od.lc 5 50) (λ_ _=>rfl)) ?_;refine Rc (ixq (ix_3 w.heap.size 1 (by decide)) (Od.lit (x:=.pointer (some ⟨w.heap.size,0,none⟩)) 5) Od.con) ?_;refine Rc (lv (fP:=IsV (.int .u8 (n1:Int))) _ (λw' e=>ld_u8 _ _ _ ((HBX.out.ext e).c 1 _ rfl)) (Od.lc 7 52) (λ_ _=>rfl)) ?_;refine Rc (cvU (n:=n1) (Od.lc 8 53) (by have:=HNN.out;omega)) ?_;refine Rc (ixq (ix_3 w.heap.size 2 (by decide)) (Od.lit (x:=.pointer (some ⟨w.heap.size,0,none⟩)) 5) Od.con) ?_;refine Rc (lv (fP:=IsV (.int .u8 (n2:Int))) _ (λw' e=>ld_u8 _ _ _ ((HBX.out.ext e).c 2 _ rfl)) (Od.lc 10 55) (λ_ _=>rfl)) ?_;refine Rc (bn (p:=.int .u8 (n2:Int)) (r:=.int .u8 (kk:Int)) (Od.lc 11 56) Od.con (hr:=λw=>by have h1:=HKK.out.2.1;have h2:=HKK.out.2.2;go_simp)) ?_;refine Rc (cvU (n:=kk) (Od.lc 12 57) (by have:=HKK.out.1;omega)) ?_;refine Rc (cl3 (fP:=IsV (.agg usi.toArray)) (fR:=IsV (.int .i64 (n1:Int))) (fS:=IsV (.int .i64 (kk:Int))) (fQ:=IsCh (λg=>0≤g∧g<w2.heap.size) Xz.heap.size (chN 9 n1 kk ci.e)) (en Tryz.func11) (Od.lc 6 51) (Od.lc 9 54) (Od.lc 13 58) (λx0 y0 z0 w' hE d0 d1 d2=>by{obtain rfl:x0=.agg usi.toArray:=d0;obtain rfl:y0=.int .i64 (n1:Int):=d1;obtain rfl:z0=.int .i64 (kk:Int):=d2;refine Calls.mono (changed_f 9 (by decide) n1 kk 20 [] ci.e usi w' (λg=>0≤g∧g<w2.heap.size) (by have:=HNN.out;omega) (by have:=HKK.out.1;omega) (trC_sz (HL.out.1.2.2 ci (List.mem_of_getElem? HCI.out.1))) (λg hg=>by have h1:=(HR2.out.2.2.trans hE).size;omega) ((NdC.toS _ _ HCI.out.2.2).ext (HR2.out.2.2.trans hE))) (λe w3 h=>by{obtain⟨r,q1,q2,us,q3,q4⟩:=h;exact⟨r,q1,q2,us,q3,q4.mono (λg hg=>hg.imp id (λh=>Nat.le_trans hE.size h))⟩})})) ?_;refine Rc (ixq (ix_Cl0 r2 cap2 n8 i HIL.out) (Od.lc (fP:=IsV (.slice (some ⟨r2,0,none⟩) n8 cap2)) 0 45) (Od.lc (fP:=IsV (.int .i64 (i:Int))) 1 46)) ?_;refine Rc (fa (fa_Cl1 r2 (9*i)) (Od.lc 15 60)) ?_;exact RgAll.nil
    intro x X9 e9 hΦ _;obtain⟨usy,hvy,hdy⟩:=hΦ 14 (by decide);simp only[layL,Act.put,List.setIfInBounds_toArray,List.set_cons_zero,List.set_cons_succ,Nat.reduceAdd];rw[hvy,show x 16=.pointer (some ⟨r2,9*i+1,none⟩)from hΦ 16 (by decide)];clear hΦ hvy;have HW9:=hid (HR2.out.2.2.trans e9);obtain⟨y,hy⟩:∃y,chN 9 n1 kk ci.e=y:=⟨_,rfl⟩;rw[hy]at hdy
    have HGY:=hid (show hgN 100 y by
      have h1:=hg_ch 9 n1 kk (sz_hg (trC_sz (HL.out.1.2.2 ci (List.mem_of_getElem? HCI.out.1))));rw[hy]at h1
      exact hg_le (by decide) h1)
    have hr2l:=HR2.out.2.1.lt;refine stA 17 rfl (λK hK=>?_);obtain⟨Xv,hr,O,BB⟩:=st_nd9 (c:=ci) (HM.out.ext HW9.out) (HR2.out.2.1.ext e9) HCI.out.2.1 hdy.nw;refine wp_stI hr (hK _ _ ?_);clear hr;have hEv:Ext w2 Xv:=O.ext HW9.out (by have h1:=HR.out.2.2.1;have h2:=HR.out.2.2.2.1;omega);have hdyv:NdC 0 Xv y usy:=(hdy.ob (Ob.only O) (λh=>by have h1:=HR.out.2.2.1;have h2:=HR.out.2.2.2.1;rcases h with h|h <;> omega)).toC (λ_ _=>Nat.zero_le _)
    have HONE:=hid (show IsCs 0 (l.set i ⟨s,ci.e⟩) (.slice (some ⟨r1,0,none⟩) n8 cap1) Xv by
      have h:=((HM.out.ext hEv).set (x:=⟨s,ci.e⟩) (λ_ _ _ h=>h) (by rw[← HL.out.2];exact HIL.out) (HCI.out.2.2.ext hEv)).is (cap:=cap1) (O.bk (HR2.out.1.ext e9) (by have:=HR.out.2.2.2.1;omega)) (by rw[List.length_set,← HL.out.2];exact HR.out.2.2.2.2.1.1) HR.out.2.2.2.2.1.2
      rwa [List.length_set,← HL.out.2]at h)
    have HTWO:=hid (show IsCs 0 (l.set i ⟨ci.nm,y⟩) (.slice (some ⟨r2,0,none⟩) n8 cap2) Xv by
      have h:=((HM.out.ext hEv).set (x:=⟨ci.nm,y⟩) (λ_ _ _ h=>h) (by rw[← HL.out.2];exact HIL.out) hdyv).is (cap:=cap2) BB (by rw[List.length_set,← HL.out.2];exact HR.out.2.2.2.2.2.1) HR.out.2.2.2.2.2.2
      rwa [List.length_set,← HL.out.2]at h)
    have HZRO:=hid (HC.out.ext hEv);have HEV:=hid (HE2.out.trans hEv);have HLA:=hid HL.out.1.lm;have HLO:=hid (lm_set (i:=i) (x:=⟨s,ci.e⟩) HLA.out ⟨by have h1:=HSB.out.2.1;have h2:=HLN.out.1;show s.length≤1000000;omega,HLA.out.2.2 ci (List.mem_of_getElem? HCI.out.1)⟩);have HLT:=hid (lm_set (i:=i) (x:=⟨ci.nm,y⟩) HLA.out ⟨HLA.out.2.1 ci (List.mem_of_getElem? HCI.out.1),HGY.out⟩);clear hK K O BB hEv hdyv hdy hy hr2l e9 HW9
    try go_simp
    refine wpAny_done (by kernel_rfl) ?_ _;generalize l.set i ⟨s,ci.e⟩=lo at HONE HLO;generalize l.set i ⟨ci.nm,y⟩=lt at HTWO HLT;go_upto_region 11 with(fail);obtain⟨W4,hW4,S0,B0⟩:∃W4,W4=Xv.alloc (.cells #[.slice a8 n8 c8,.slice (some ⟨r1,0,none⟩) n8 cap1,.slice (some ⟨r2,0,none⟩) n8 cap2] 25)∧Ext Xv W4∧Bk W4 Xv.heap.size [.slice a8 n8 c8,.slice (some ⟨r1,0,none⟩) n8 cap1,.slice (some ⟨r2,0,none⟩) n8 cap2]:=⟨_,rfl,(Ext.refl Xv).alloc _,by simpa using Bk.new Xv #[.slice a8 n8 c8,.slice (some ⟨r1,0,none⟩) n8 cap1,.slice (some ⟨r2,0,none⟩) n8 cap2] 25⟩;refine wp_region_lit ?_;refine stL (λK hK=>wp_mv (hK _ _ ?_));clear hK K
    try go_simp
    refine stL (λK hK=>wp_mv (hK _ _ ?_));clear hK K
    try go_simp
    refine stL (λK hK=>wp_mv (hK _ _ ?_));clear hK K
    try go_simp
    refine wpList_step λK hK=>?_
    go_simp
    refine hK _ _ ?_;clear hK K;rw[← hW4];clear hW4;refine stL (λK hK=>wp_mv (hK _ _ ?_));clear hK K
    try go_simp
    refine wpList_nil ?_;obtain⟨gl,hgl⟩:∃g,Xv.heap.size=g:=⟨_,rfl⟩;rw[hgl]at B0 ⊢;clear hgl;have HEW:=hid (HEV.out.trans S0)
    have HLL:=hid (show ∀i3,i3<3→ ∃(a:Option Addr) (m c:Nat) (l:List Cl),World.cell? W4 ⟨gl,i3,none⟩=some (.slice a m c)∧IsCs 0 l (.slice a m c) W4∧LmL l from λi3 hi3=>by
      rcases(by omega:i3=0∨i3=1∨i3=2)with rfl|rfl|rfl
      ·exact⟨_,_,_,_,B0.c 0 _ rfl,HZRO.out.ext S0,HLA.out⟩
      ·exact⟨_,_,_,_,B0.c 1 _ rfl,HONE.out.ext S0,HLO.out⟩
      ·exact⟨_,_,_,_,B0.c 2 _ rfl,HTWO.out.ext S0,HLT.out⟩)
    have HZR:=hid (HZRO.out.ext S0);clear S0 B0 HZRO HONE HTWO HLO HLT HEV;go_wp2_with fail
    go_loopg [13] 3 (λgk v13 wr=>∃i3:Nat,v13=.int .i64 (i3:Int)∧i3+gk=3∧Hid (Ext W4 wr))
    case atStart=>exact⟨0,rfl,rfl,hid (Ext.refl _)⟩
    case round=>
      obtain⟨i3,rfl,hg,S⟩:=hrel;by_cases hi:i3<3
      · have hil:(i3:Int)<3:=by omega
        have hiw:IntKind.i64.wrap ((i3:Int)+1)=((i3+1:Nat):Int):=by simp only[IntKind.wrap_i64];omega
        obtain⟨al,nl,cl,l3,hcl,hisl,hlm⟩:=HLL.out i3 hi;have HI:=hid (And.intro hg hi);have HLM:=hid hlm;have HCL:=hid hcl;have HIS:=hid hisl;have HEr:=hid S.out;obtain⟨rt,hrt⟩:∃r,rtE l3=r:=⟨_,rfl⟩;obtain⟨pb,hpb⟩:∃y:ByteArray,(⟨(prS l3).toArray⟩:ByteArray)=y:=⟨_,rfl⟩;obtain⟨pe,hpe⟩:∃y,prE l3=y:=⟨_,rfl⟩;have HPR:=hid (λw' (e:Ext W4 w')=>printed_f (HIS.out.ext e) (by have:=HLM.out.1;omega) HLM.out.2.1 (HT.out.1.ext (HEW.out.trans e)));have HPI:=hid (λw' (e:Ext W4 w')=>PrintIn_f 100 (HIS.out.ext e) (by have:=HLM.out.1;omega) (by decide) HLM.out.2.2);have HRN:=hid (λw' (e:Ext W4 w')=>right_f (HIS.out.ext e) (by have:=HLM.out.1;omega) HLM.out.2.1);have HR42:=hid (λw' (e:Ext W4 w')=>Right42_f 100 (HIS.out.ext e) (by have:=HLM.out.1;omega) (by decide) HLM.out.2.2);simp only[hrt]at HRN HR42;simp only[hpe]at HPR HPI;unfold IsTx at HPR HPI;simp only[encS,hpb]at HPR HPI;have HPRv:Hid (∀w',Ext W4 w'→Calls Tryz.prog 14 #[.slice al nl cl] w' (Ret w' (IsV (.agg #[.string pb,.int .i64 pe])))):=HPR;have HPIv:Hid (∀w',Ext W4 w'→Calls Tryz.prog 15 #[.slice al nl cl] w' (Ret w' (IsV (.agg #[.string pb,.int .i64 pe])))):=HPI;have HRNv:Hid (∀w',Ext W4 w'→Calls Tryz.prog 12 #[.slice al nl cl] w' (RVal w' (.bool rt))):=HRN;have HR4v:Hid (∀w',Ext W4 w'→Calls Tryz.prog 13 #[.slice al nl cl] w' (RVal w' (.bool rt))):=HR42;clear hg hi hcl hisl hlm S hrt hpb hpe HPR HPI HRN HR42;go_upto_region 15 with(fail);refine rg 24 [some 70,some 71,some 72,some 73,some 74,some 75,some 76,some 77,some 78,some 79,some 80,some 81,some 82,some 83,some 84,some 85,some 86,some 87,some 88,some 89,some 90,some 91,some 92,some 93] [IsV (.slice (some ⟨gl,0,none⟩) 3 3),IsV (.int .i64 (i3:Int)),IsV (.pointer (some ⟨gl,i3,none⟩)),IsV (.slice al nl cl),IsV (.bool rt),IsV (.slice (some ⟨gl,0,none⟩) 3 3),IsV (.int .i64 (i3:Int)),IsV (.pointer (some ⟨gl,i3,none⟩)),IsV (.slice al nl cl),IsV (.bool rt),IsV (.bool false),IsV (.bool false),IsV (.slice (some ⟨gl,0,none⟩) 3 3),IsV (.int .i64 (i3:Int)),IsV (.pointer (some ⟨gl,i3,none⟩)),IsV (.slice al nl cl),IsV (.agg #[.string pb,.int .i64 pe]),IsV (.slice (some ⟨gl,0,none⟩) 3 3),IsV (.int .i64 (i3:Int)),IsV (.pointer (some ⟨gl,i3,none⟩)),IsV (.slice al nl cl),IsV (.agg #[.string pb,.int .i64 pe]),IsV (.bool false),IsV (.bool false)] [] 0 ?_ ?_ (hst:=by repeat' (first|exact trivial|exact IsV.stb _|apply IsIf.stb|apply And.intro))
        · refine Rc (mv (Od.lit (x:=.slice (some ⟨gl,0,none⟩) 3 3) 12)) ?_
          refine Rc (mv (Od.lit (x:=.int .i64 (i3:Int)) 13)) ?_;refine Rc (ixq (ix_CC gl 3 3 i3 HI.out.2) (Od.lc (fP:=IsV (.slice (some ⟨gl,0,none⟩) 3 3)) 0 70) (Od.lc (fP:=IsV (.int .i64 (i3:Int))) 1 71)) ?_;refine Rc (lv (fP:=IsV (.slice al nl cl)) _ (λw' e=>ld_Cls ((HEr.out.trans e).cell HCL.out)) (Od.lc 2 72) (λ_ _=>rfl)) ?_;refine Rc (cl1 (fP:=IsV (.slice al nl cl)) (fQ:=IsV (.bool rt)) (en Tryz.func12) (Od.lc 3 73) (λx0 w' hE d0=>by{obtain rfl:x0=.slice al nl cl:=d0;exact Calls.mono (HRNv.out w' (HEr.out.trans hE)) (λe w2 h=>⟨_,h.1,h.2,rfl⟩)})) ?_;refine Rc (mv (Od.lit (x:=.slice (some ⟨gl,0,none⟩) 3 3) 12)) ?_;refine Rc (mv (Od.lit (x:=.int .i64 (i3:Int)) 13)) ?_;refine Rc (ixq (ix_CC gl 3 3 i3 HI.out.2) (Od.lc (fP:=IsV (.slice (some ⟨gl,0,none⟩) 3 3)) 5 75) (Od.lc (fP:=IsV (.int .i64 (i3:Int))) 6 76)) ?_;refine Rc (lv (fP:=IsV (.slice al nl cl)) _ (λw' e=>ld_Cls ((HEr.out.trans e).cell HCL.out)) (Od.lc 7 77) (λ_ _=>rfl)) ?_;refine Rc (cl1 (fP:=IsV (.slice al nl cl)) (fQ:=IsV (.bool rt)) (en Tryz.func13) (Od.lc 8 78) (λx0 w' hE d0=>by{obtain rfl:x0=.slice al nl cl:=d0;exact Calls.mono (HR4v.out w' (HEr.out.trans hE)) (λe w2 h=>⟨_,h.1,h.2,rfl⟩)})) ?_;refine Rc (bn (p:=.bool rt) (q:=.bool rt) (r:=.bool false) (Od.lc 4 74) (Od.lc 9 79) (hr:=λw=>by cases rt <;> go_simp)) ?_;refine Rc (mv (Od.lc (fP:=IsV (.bool false)) 10 80)) ?_;refine RcG 11 81 false (mv (Od.lit (x:=.slice (some ⟨gl,0,none⟩) 3 3) 12)) ?_;refine RcG 11 81 false (mv (Od.lit (x:=.int .i64 (i3:Int)) 13)) ?_;refine RcG 11 81 false (ixq (ix_CC gl 3 3 i3 HI.out.2) (Od.lc (fP:=IsV (.slice (some ⟨gl,0,none⟩) 3 3)) 12 82) (Od.lc (fP:=IsV (.int .i64 (i3:Int))) 13 83)) ?_;refine RcG 11 81 false (lv (fP:=IsV (.slice al nl cl)) _ (λw' e=>ld_Cls ((HEr.out.trans e).cell HCL.out)) (Od.lc 14 84) (λ_ _=>rfl)) ?_;refine RcG 11 81 false (cl1 (fP:=IsV (.slice al nl cl)) (fQ:=IsV (.agg #[.string pb,.int .i64 pe])) (en Tryz.func14) (Od.lc 15 85) (λx0 w' hE d0=>by{obtain rfl:x0=.slice al nl cl:=d0;exact HPRv.out w' (HEr.out.trans hE)})) ?_;refine RcG 11 81 false (mv (Od.lit (x:=.slice (some ⟨gl,0,none⟩) 3 3) 12)) ?_;refine RcG 11 81 false (mv (Od.lit (x:=.int .i64 (i3:Int)) 13)) ?_;refine RcG 11 81 false (ixq (ix_CC gl 3 3 i3 HI.out.2) (Od.lc (fP:=IsV (.slice (some ⟨gl,0,none⟩) 3 3)) 17 87) (Od.lc (fP:=IsV (.int .i64 (i3:Int))) 18 88)) ?_;refine RcG 11 81 false (lv (fP:=IsV (.slice al nl cl)) _ (λw' e=>ld_Cls ((HEr.out.trans e).cell HCL.out)) (Od.lc 19 89) (λ_ _=>rfl)) ?_;refine RcG 11 81 false (cl1 (fP:=IsV (.slice al nl cl)) (fQ:=IsV (.agg #[.string pb,.int .i64 pe])) (en Tryz.func15) (Od.lc 20 90) (λx0 w' hE d0=>by{obtain rfl:x0=.slice al nl cl:=d0;exact HPIv.out w' (HEr.out.trans hE)})) ?_;refine RcG 11 81 false (bn (p:=.agg #[.string pb,.int .i64 pe]) (q:=.agg #[.string pb,.int .i64 pe]) (r:=.bool false) (Od.lc 16 86) (Od.lc 21 91) (hr:=λw=>by go_simp)) ?_
          refine Rc (pkO (b:=false) (b2:=false) (r:=false) (Od.lc (fP:=IsV (.bool false)) 11 81) (λ_=>Od.lc (fP:=IsV (.bool false)) 22 92) rfl) ?_;exact RgAll.nil
        intro x X6 e6 hΦ _;have q9:x 23=.bool false:=hΦ 23 (by decide);simp only[layL,Act.put,List.setIfInBounds_toArray,List.set_cons_zero,List.set_cons_succ,Nat.reduceAdd];rw[q9];have HE6:=hid (HEr.out.trans e6);clear hΦ q9 e6 HEr;refine wpAny_done (by kernel_rfl) ?_ _;go_wp2_with fail
        go_roundg (gk-1)
        case measure=>have:=HI.out;omega
        case rel=>exact⟨i3+1,rfl,by have:=HI.out;omega,hid HE6.out⟩
      · have hil:¬(i3:Int)<3:=by omega
        have HEr:=hid S.out
        have HR1:=hid (show Calls Tryz.prog 12 #[.slice a8 n8 c8] wr (RVal wr (.bool true))by
          have h:=right_f (HZR.out.ext HEr.out) (by have:=HL.out.1.1;omega) HLA.out.2.1;have h2:=HL.out.1.pr.1;rw[show rtE l=true from by unfold prE at h2;split at h2;assumption;cases h2]at h
          exact h)
        clear hg hi S;go_wp2_with (go_at_call 12;go_must (refine Calls.mono HR1.out ?_;rintro e w8 ⟨rfl,e8⟩;have e8:=hid (HEr.out.trans e8)))
        go_ret
        exact⟨_,rfl,HE.out.trans (HEW.out.trans e8.out),rfl⟩
  · have hbad:30<ns∨n8=0:=by omega
    have HX:=hid (HE.out.trans HE2.out);by_cases h30:30<ns
    · have hl30:(30:Int)<(ns:Int):=by omega
      clear hlen hbad h30;go_wp2_with fail
      go_ret
      exact⟨_,rfl,HX.out,rfl⟩
    · have hl30:¬(30:Int)<(ns:Int):=by omega
      obtain rfl:n8=0:=by omega
      clear hlen hbad h30;go_wp2_with fail
      go_ret
      exact⟨_,rfl,HX.out,rfl⟩
end
end Go.Proofs.YtenhciieboegbaaGreatDoor
