/-
  Package notebook: Parse, which recovers what the reader panics with.
-/
import Derived.Test.YtenhciieboegbaaGreatDoorNxp
import Derived.Tactics
import Derived.Tactics2
import Derived.Defers
import Derived.Recover
import Derived.Laws.Pointers
namespace Go.Proofs.YtenhciieboegbaaGreatDoor
open Go Go.RowKit
open Go.Proofs.Tryz
set_option maxRecDepth 100000
set_option maxHeartbeats 4000000
def PaR(w:World)(s:List UInt8)(e:Ending)(w':World):Prop:=Ext w w'/\∃v,e =.returned (.tuple #[v,.int .i64 (paE s).2])/\IsCs w.heap.size (paE s).1 v w'
def NdI(o:Option Nat)(B:Nat)(w:World)(x:Nd)(us:List Value):Prop:=∀w':World,(∀(p:Addr) (v:Value),B <=p.block ->o≠some p.block ->World.cell? w p =some v ->World.cell? w' p =some v) ->Gr w w' ->NdC B w' x us
theorem NdI.nd{o:Option Nat}{B:Nat}{w:World}{x:Nd}{us:List Value}(h:NdI o B w x us):NdC B w x us:=h w (λ_ _ _ _ h =>h) (Gr.refl w)
theorem NdI.kc{o:Option Nat}{B:Nat}{w w':World}{x:Nd}{us:List Value}(h:NdI o B w x us)(K:Kc B w w'):NdI o B w' x us:=λw'' hc hg =>h w'' (λp v hp hne hv =>hc p v hp hne (K.1 p v hp hv)) (K.2.trans hg)
theorem NdI.of{o:Option Nat}{b B:Nat}{w:World}{x:Nd}{us:List Value}(h:NdC b w x us)(hb:B <=b)(ho:∀g,o =some g ->g < b):NdI o B w x us:=λw'' hc hg =>
  NdC.low hb _ _ (NdC.kept (λp v hp hv =>hc p v (zO hb hp) (λe =>by have:=ho _ e;omega) hv) hg x us h)
theorem NdI.grown{o o':Option Nat}{B:Nat}{w w':World}{x:Nd}{us:List Value}(h:NdI o B w x us)(hg:w.grownBy w' o)(gr:Gr w w')(ho:o' =o\/o' =some w.heap.size):NdI o' B w' x us:=λw'' hc hg' =>
  h w'' (λp v hp hne hv =>by
    have hl:=World.block_lt_of_cell? w p hv
    refine hc p v hp ?_ ((World.cell?_of_block (w:=w) (a:=p) (hg.block p.block hl λe =>hne e.symm)).trans hv)
    rcases ho with rfl|rfl
    ·exact hne
    ·intro e;injection e with e;omega) (gr.trans hg')
def CsR(B:Nat)(o:Option Nat)(w:World)(l:List Cl)(M:List (List Value)):Prop:=M.length =l.length/\∀(i:Nat) (c:Cl),l[i]? =some c ->c.nm.length <=1000000/\∃us:List Value,M[i]? =some (qB c.nm ::us)/\NdI o B w c.e us
theorem CsR.kc{B:Nat}{o:Option Nat}{w w':World}{l:List Cl}{M:List (List Value)}(h:CsR B o w l M)(K:Kc B w w'):CsR B o w' l M:=⟨h.1,λi c hi =>let ⟨h0,us,h1,h2⟩ :=h.2 i c hi;⟨h0,us,h1,h2.kc K⟩⟩
theorem CsR.grown{B:Nat}{o o':Option Nat}{w w':World}{l:List Cl}{M:List (List Value)}(h:CsR B o w l M)(hg:w.grownBy w' o)(gr:Gr w w')(ho:o' =o\/o' =some w.heap.size):CsR B o' w' l M:=⟨h.1,λi c hi =>let ⟨h0,us,h1,h2⟩ :=h.2 i c hi;⟨h0,us,h1,h2.grown hg gr ho⟩⟩
theorem CsR.nil(B:Nat)(o:Option Nat)(w:World):CsR B o w [] [] :=⟨rfl,λi c h =>by simp at h⟩
theorem CsR.snoc{B:Nat}{o:Option Nat}{w:World}{l:List Cl}{M:List (List Value)}(h:CsR B o w l M){c:Cl}{us:List Value}(hc:c.nm.length <=1000000)(hn:NdI o B w c.e us):CsR B o w (l ++ [c]) (M ++ [qB c.nm ::us]) :=by
  refine⟨by simp[h.1],λi d hi =>?_⟩
  rcases zR i l.length with hl|hl
  · rw[List.getElem?_append_left hl]at hi
    obtain⟨h0,us',h1,h2⟩ :=h.2 i d hi
    exact⟨h0,us',by rw[List.getElem?_append_left (by rw[h.1];exact hl)];exact h1,h2⟩
  · rw [List.getElem?_append_right hl]at hi
    have hi0:i - l.length =0:=by
      rcases zK (i - l.length)with h|h
      ·exact h
      ·rw[List.getElem?_eq_none (by simp;omega)]at hi;cases hi
    rw[hi0]at hi
    obtain rfl:c =d:=by simpa using hi
    exact⟨hc,us,by rw[List.getElem?_append_right (by rw[h.1];exact hl),h.1,hi0];rfl,hn⟩
theorem CsR.len9{B:Nat}{o:Option Nat}{w:World}{l:List Cl}{M:List (List Value)}(h:CsR B o w l M):∀us∈M,us.length =9:=by
  intro us hu
  obtain⟨i,hi⟩ :=List.getElem?_of_mem hu
  have hl:i < l.length:=by rw[<-h.1];exact(List.getElem?_eq_some_iff.1 hi).1
  obtain⟨_,us',h1,h2⟩ :=h.2 i l[i] (List.getElem?_eq_getElem hl)
  rw[hi]at h1
  cases h1
  rw[List.length_cons,h2.nd.len]
theorem CsR.is{B base:Nat}{o:Option Nat}{w:World}{l:List Cl}{M:List (List Value)}{v:Value}(h:CsR B o w l M)(hr:RwK 34 9 base M v w)(hb:B <=base):IsCs B l v w:=by
  obtain⟨ao,cap,rfl,h2,h3,h4⟩ :=hr.at (k:=9) h.len9
  refine⟨ao,cap,by rw[h.1],by rw[<-h.1];exact h2,h3,λhne =>?_⟩
  obtain⟨g,q1,q2,q3,q4⟩ :=h4 (λe =>hne (List.length_eq_zero_iff.1 (by rw[<-h.1,e];rfl)))
  refine⟨g,0,q1,zO hb q2,λi x hi =>?_⟩
  obtain⟨_,us,r1,r2⟩ :=h.2 i x hi
  refine⟨us,λj u hj =>?_,r2.nd,?_⟩
  · have:=q4 i _ r1 (j + 1) u ja
    rwa [show 0 + 9 * i + 1 + j =9 * i + (j + 1)by omega]
  · have:=q4 i _ r1 0 _ rfl
    rwa [show 0 + 9 * i =9 * i + 0 by omega]
theorem CsR.nmok{B:Nat}{o:Option Nat}{w:World}{l:List Cl}{M:List (List Value)}(h:CsR B o w l M):NmOk l:=by
  intro c hc
  obtain⟨i,hi⟩ :=List.getElem?_of_mem hc
  exact(h.2 i c hi).1
theorem wp_clo{w:World}{o:Oper}{a:Act}{Q:Exit ->Act ->World ->Prop}{K:Act ->World ->Prop}(t:Tmp)(s x:Operand)
    (ho:o.op =.call {callee:=.builtin .append,args:= #[s,x],argTypes:= #[25,25]}) (base:Nat) (M:List (List Value)) (us:List Value) (v xv:Value) (hs:a.eval s =v) (hx:a.eval x =xv) (hI:RwK 34 9 base M v w) (hu:us.length =9/\ (∀v∈us,NoWord v)/\us.all (λu =>u.oneCell')=true) (hsrc:SrcR 1 us xv w) (hl:M.length <=1000000) (hbase:base <=w.heap.size)
    (h:∀v' w',RwK 34 9 base (M ++ [us]) v' w' ->w.grownBy w' v.ownBlock ->Gr w w' ->(v'.ownBlock =v.ownBlock\/v'.ownBlock =some w.heap.size) ->K (a.put (some t) v') w') (hdt:o.dst =some t:=by rfl):Oper.wp prog o a w K Q:=by
  obtain⟨bytes,hi,hb⟩ :=infoCl
  refine wp_rwnS s x 25 ho base 34 (.agg zCl.toArray) 9 bytes zc hi rfl dcx (λu hu =>nwZCl u xd) v M.length M.flatten hs hI.1 hI.2 1 us xv hx (by rw[hu.1]) hsrc (List.all_eq_true.1 hu.2.2) hu.2.1 ze xz hbase ?_
  intro v' w' r1 r2 r3 r4 r5 r6
  rw[hdt]
  exact h v' w' ⟨by rw[zQ,List.flatten_append];simpa using r1,r2⟩ r3 r4 r6
theorem st_cl1{W:World}{C:Nat}{x:Value}{old us:List Value}(B:Bk W C (x ::old))(hx:NoWord x)(ho:old.length =8)(hn:∀v∈old,NoWord v)(hu:us.length =8)(hnu:∀v∈us,NoWord v)(h1:us.all (λu =>u.oneCell')=true):
    ∃W',(Instr.storeAt 32 (.pointer (some ⟨C,1,none⟩)) (.agg us.toArray)).run prog W =.ok () W'/\OnlyB C W W'/\Bk W' C (x ::us) :=by
  obtain⟨cs',O,B',hl,_,hj⟩ :=B.ovr us 1 (by simp[ho,hu]) (λv hv =>by rcases List.mem_cons.1 hv with rfl|hv;exact hx;exact hn v hv) hnu
  have hcs:cs' =x ::us:=by
    apply List.ext_getElem?
    intro j
    rw[hj j]
    rcases j with _|j
    ·simp
    · by_cases h:1 <=j + 1/\j + 1 < 1 + us.length
      ·rw[if_pos h];simp
      ·rw[if_neg h,List.getElem?_cons_succ,List.getElem?_cons_succ,List.getElem?_eq_none (by omega),List.getElem?_eq_none (by omega)]
  rw[hcs]at B'
  refine⟨_,?_,O,B'⟩
  have ht:W.there C 1 us.toArray.size:=λj hj =>by
    have hj':j < 8:=by simp at hj;omega
    exact⟨by rw[B.c (1 + j) _ (List.getElem?_eq_getElem (by simp;omega))];rfl,B.f (1 + j)⟩
  rw[run_storeAt_mid W C 1 32 us.toArray ht (by simp only[List.size_toArray];rw[hu];kernel_rfl) (by simpa using h1),setCellsL]
theorem st_Cs{T k base:Nat}{M:List (List Value)}{v:Value}{w:World}(h:RwK T k base M v w):StC1 prog 25 v:=by
  obtain⟨ao,cap,rfl,-⟩ :=h.1.shape
  exact λw a v h2 h3 =>by go_simp
theorem ld_Cs:LdC1 prog 25:=λw a v h =>by go_simp
theorem st_e(z:Int):StC1 prog 38 (.int .i64 z) :=λw a v h2 h3 =>by go_simp
theorem IsCs.stb1{B g:Nat}{l:List Cl}{v:Value}{w w':World}(h:IsCs B l v w)(O:OnlyB g w w')(hg:g < B):IsCs B l v w':=h.ob (Ob.only O) hg
theorem ld_Cl:LdV prog 34 9:=λw g vs hl B =>ldM zc zc hl (λj v hj =>by rw[Nat.zero_add];exact B.c j v hj)
theorem bsC_run{us:List Value}(hu:us.length =9)(h1:us.all (λu =>u.oneCell')=true)(w:World):(Instr.buildSlice 25 1 #[(0,.agg us.toArray)]).run prog w =.ok (.slice (some ⟨w.heap.size,0,none⟩) 1 1) (w.alloc (.cells us.toArray 34)) :=by
  match us,hu with
  | [u0,u1,u2,u3,u4,u5,u6,u7,u8],_ =>
    simp only[List.all_cons,List.all_nil,Bool.and_true,Bool.and_eq_true]at h1
    go_simp
theorem wp_bsC{Q:Exit ->Act ->World ->Prop}{o:Oper}{a:Act}{w:World}{K:Act ->World ->Prop}{x:Operand}{us:List Value}(hu:us.length =9)(h1:us.all (λu =>u.oneCell')=true)
    (h:Ext w (w.alloc (.cells us.toArray 34)) ->SrcR 1 us (.slice (some ⟨w.heap.size,0,none⟩) 1 1) (w.alloc (.cells us.toArray 34)) ->K (a.put o.dst (.slice (some ⟨w.heap.size,0,none⟩) 1 1)) (w.alloc (.cells us.toArray 34)))
    (he:a.eval x =.agg us.toArray:=by kernel_rfl) (ho:o.op =.buildSlice 25 1 #[(0,x)] :=by rfl):Oper.wp prog o a w K Q:=by
  have h9:(execOp a.eval o).run prog w =.ok (.value (.slice (some ⟨w.heap.size,0,none⟩) 1 1)) (w.alloc (.cells us.toArray 34)) :=by
    unfold execOp
    rw[ho]
    dsimp only
    simp only[List.map_toArray,List.map_cons,List.map_nil]
    rw[he]
    simp[bsC_run hu h1 w]
  unfold Oper.wp
  rw[h9]
  exact h ((Ext.refl _).alloc _) (by simpa using SrcR.new w us.toArray 34 1 1)
/-! ### The deferred call -/
theorem taW_y(w:World):(Instr.typeAssert (.iface 127 (.agg #[])) 20 127 true).run prog w =.ok (.tuple #[.agg #[],.bool true]) w:=by
  first|rfl|go_simp
theorem catchP_f{X:World}{L:Nat}{lv z:Value}(B1:Bk X L [lv])(n1:NoWord lv)(B2:Bk X (L + 1) [z])(n2:NoWord z):CallsD prog 75 #[.pointer (some ⟨L,0,none⟩),.pointer (some ⟨L + 1,0,none⟩)] (.panicking pwr) X λe u' w' =>
    e =.returned (.tuple #[])/\u' =.panicking [{v:=wrongV,recovered:=true}]/\ (∀w,Ext w X ->w.heap.size <=L ->Ext w w')/\Bk w' L [.slice none 0 0]/\Bk w' (L + 1) [.int .i64 420] :=by
  refine callsD_of_wpS func75 rfl λc₀ cs hu =>?_
  simp only[ntmps75,List.size_toArray,List.length_cons,List.length_nil,Nat.reduceAdd,Nat.reduceSub,Array.replicate_succ,Array.replicate_zero,List.push_toArray,List.append_toArray,List.nil_append,List.cons_append]
  apply wpS_seq
  apply wpS_region
  have hta:=taW_y
  have hnb:∀w,(Instr.alloc 127 true (.tuple #[])).run prog w =.ok (.pointer (some ⟨w.heap.size,0,none⟩)) (w.alloc (.cells #[] 127)) :=λw =>by go_simp
  obtain⟨W0,hW1,E1⟩:∃W0,W0 =X.alloc (.cells #[] 127)/\Ext X W0:=⟨_,rfl,(Ext.refl X).alloc _⟩
  obtain⟨O1,D1⟩ :=(B1.ext E1).setO 0 zo (.slice none 0 0) n1
  obtain⟨O2,D2⟩ :=(O1.bk (B2.ext E1) ze).setO 0 zo (.int .i64 420) n2
  have D3:=O2.bk D1 ze
  have hst:∀w,(Instr.storeAt 127 (.pointer (some ⟨X.heap.size,0,none⟩)) (.agg #[])).run prog w =.ok () w:=λw =>by go_simp
  have k0:=(B1.ext E1).c 0 _ rfl
  have f0:=(B1.ext E1).f 0
  have k1:=(O1.bk (B2.ext E1) ze).c 0 _ rfl
  have f1:=(O1.bk (B2.ext E1) ze).f 0
  simp[wpOpsS,go_sem,recoverD,hu,Exit.thenS,pwr,wrongV]
  apply wpS_seq
  apply wpS_region
  simp[wpOpsS,go_sem,Exit.thenS]
  refine wpS_cond (t:=true) (by simp[Act.eval]) ?_
  simp only[if_true]
  apply wpS_seq
  apply wpS_seq
  apply wpS_region
  simp[wpOpsS,hta,go_sem,Exit.thenS]
  rw[<-hW1]
  apply wpS_seq
  apply wpS_region
  simp[wpOpsS,go_sem,Exit.thenS]
  refine wpS_cond (t:=false) (by simp[Act.eval]) ?_
  simp only[Bool.false_eq_true,if_false]
  refine wpS_of_wp (wp_skip ?_)
  simp only[Exit.thenS]
  apply wpS_region
  cases c₀
  simp[wpOpsS,go_sem,k0,f0,k1,f1,bodyPostS,results,results75]
  exact⟨λw e h =>O2.ext (O1.ext (e.trans E1) h) (Nat.le_succ_of_le h),D3,D2⟩
theorem idleP_f(w:World)(L:Nat):CallsD prog 75 #[.pointer (some ⟨L,0,none⟩),.pointer (some ⟨L + 1,0,none⟩)] .returning w λe u' w' =>e =.returned (.tuple #[])/\u' =.returning/\Ext w w':=by
  refine callsD_of_wpS func75 rfl λc₀ cs hu =>?_
  simp only[ntmps75,List.size_toArray,List.length_cons,List.length_nil,Nat.reduceAdd,Nat.reduceSub,Array.replicate_succ,Array.replicate_zero,List.push_toArray,List.append_toArray,List.nil_append,List.cons_append]
  apply wpS_seq
  apply wpS_region
  simp[wpOpsS,go_sem,recoverD,hu,Exit.thenS]
  apply wpS_seq
  apply wpS_region
  simp[wpOpsS,go_sem,Exit.thenS]
  refine wpS_cond (t:=false) (by simp[Act.eval]) ?_
  simp only[Bool.false_eq_true,if_false]
  refine wpS_of_wp (wp_skip ?_)
  cases c₀
  simp_all [bodyPostS,results,results75]
  exact Ext.refl w
theorem pa_pan{w X:World}{s:List UInt8}{tmps:Array Value}{L:Nat}{lv z:Value}(hE:Ext w X)(hw:w.heap.size <=L)(B1:Bk X L [lv])(n1:NoWord lv)(B2:Bk X (L + 1) [z])(n2:NoWord z)(hs:paE s =([],420))
    (h2:tmps.getD 2 undef =.pointer (some ⟨L,0,none⟩)) (h3:tmps.getD 3 undef =.pointer (some ⟨L + 1,0,none⟩)) :
    Leaves prog Tryz.f40 tmps (PaR w s) [{target:=.fn (.func 75) #[.pointer (some ⟨L,0,none⟩),.pointer (some ⟨L + 1,0,none⟩)],args:= #[]}] (.panicking pwr) X:=by
  refine leaves_cons (f:=75) (args:= #[.pointer (some ⟨L,0,none⟩),.pointer (some ⟨L + 1,0,none⟩)]) zo (by simp[go_sem]) ?_
  refine(catchP_f B1 n1 B2 n2).mono ?_
  rintro e u' w'' ⟨rfl,rfl,hE2,C1,C2⟩
  have d0:=C1.c 0 _ rfl
  rw[Array.getD_eq_getD_getElem?]at h2 h3
  have d1:=C2.c 0 _ rfl
  simp[Leaves,settle,results,results40,go_sem,h2,h3,d0,d1]
  exact⟨hE2 w hE hw,_,by rw[hs],by rw[hs];exact IsCs.nil _ _⟩
theorem pa_end{w X:World}{s:List UInt8}{tmps:Array Value}{L:Nat}{lv:Value}{z:Int}(hE:Ext w X)(B1:Bk X L [lv])(B2:Bk X (L + 1) [.int .i64 z])(hz:(paE s).2 =z)(hl:IsCs w.heap.size (paE s).1 lv X)
    (h2:tmps.getD 2 undef =.pointer (some ⟨L,0,none⟩)) (h3:tmps.getD 3 undef =.pointer (some ⟨L + 1,0,none⟩)) :
    Leaves prog Tryz.f40 tmps (PaR w s) [{target:=.fn (.func 75) #[.pointer (some ⟨L,0,none⟩),.pointer (some ⟨L + 1,0,none⟩)],args:= #[]}] .returning X:=by
  refine leaves_cons (f:=75) (args:= #[.pointer (some ⟨L,0,none⟩),.pointer (some ⟨L + 1,0,none⟩)]) zo (by simp[go_sem]) ?_
  refine(idleP_f X L).mono ?_
  rintro e u' w'' ⟨rfl,rfl,e5⟩
  have d0:=(B1.ext e5).c 0 _ rfl
  rw[Array.getD_eq_getD_getElem?]at h2 h3
  have d1:=(B2.ext e5).c 0 _ rfl
  simp[Leaves,settle,results,results40,go_sem,h2,h3,d0,d1]
  exact⟨hE.trans e5,_,by rw[hz],hl.ext e5⟩
theorem Parse_big{w:World}{s:List UInt8}(hl:20000 < s.length)(hl2:s.length <=4611686018427387904):Calls prog 40 #[qB s] w (PaR w s) :=by
  obtain⟨sb,hsb⟩:∃y,(⟨s.toArray⟩:ByteArray)=y:=⟨_,rfl⟩
  obtain⟨n,hn⟩:∃n,s.length =n:=⟨_,rfl⟩
  have hsz:sb.size =n:=by rw[<-hsb,<-hn];rfl
  have hle:(20000:Int) < (n:Int) :=ze
  have HPE:=hid (show paE s =([],2)by rw[paE,if_pos hl])
  rw[qB,hsb]
  clear hsb hn hl hl2
  go_enter func40,ntmps40
  go_wp2_with fail
  refine zH (v:=.tuple #[.slice none 0 0,.int .i64 2]) (by simp[results,results40,go_sem]) rfl ?_
  exact⟨((Ext.refl w).alloc _).alloc _,_,by rw[HPE.out],by rw[HPE.out];exact IsCs.nil _ _⟩
structure PaW (w:World) (R:Nat) (l:List Cl) (M:List (List Value)) (lv:Value) (s:List UInt8) (X:World):Prop where
  e:Ext w X
  b:Bk X R [qB s]
  lb:Bk X w.heap.size [lv]
  eb:Bk X (w.heap.size + 1) [.int .i64 0]
  rw:RwK 34 9 (R + 1) M lv X
  cr:CsR (R + 1) lv.ownBlock X l M
theorem RwK.nw{T k base:Nat}{M:List (List Value)}{v:Value}{w:World}(h:RwK T k base M v w):NoWord v:=by
  obtain⟨ao,cap,rfl,-⟩ :=h.1.shape
  exact nwSl _ _ _
theorem clP_one{k:Nat}{s:List UInt8}(h:s≠ []):clP (k + 1) s =(qG [32,61,32] (s.dropWhile qH)).bind λs1 =>(exP 20 [] s1).bind λp =>(qG [10] p.2).bind λs3 =>(clP k s3).bind λl =>some (⟨s.takeWhile qH,p.1⟩ ::l) :=by
  cases s with
  |nil =>exact absurd rfl h
  |cons c t =>rfl
theorem takeP_lt{c:UInt8}{s t:List UInt8}(h:qG [c] s =some t):t.length + 1 =s.length:=by
  rw[qG]at h
  split at h
  · rename_i hp
    cases h
    cases s with
    |nil =>cases hp
    |cons a u =>simp
  ·cases h
theorem paE_no{s:List UInt8}(hl:s.length <=20000)(h:clP s.length s =none):paE s =([],420) :=by
  rw[paE,if_neg (by omega),h]
section
set_option maxRecDepth 100000
set_option maxHeartbeats 8000000
theorem tNpa_1{P:Prop}(h:P:=by
  go_upto_region 13 with fail
  refine wp_region_lit ?_
  refine stL (λK hK =>?_)
  refine stCO 0 (u:=.slice none 0 0) HLB.out (st_Cs (RwK.nil 34 9 0 X1)) rfl HP.out.rw.nw (λX2 B9 O =>hK _ _ ?_)
  have HE2:=hid (O.ext HE.out (zN _))
  have HEB2:=hid (O.bk HEB.out ze)
  have HLB2:=hid B9
  clear hK K O B9
  refine stL (λK hK =>?_)
  refine stCO 0 (u:=.int .i64 420) HEB2.out (st_e _) rfl (NoWord.int64 _) (λX3 B9 O =>hK _ _ ?_)
  have HE3:=hid (O.ext HE2.out (Nat.le_succ _))
  have HLB3:=hid (O.bk HLB2.out ze)
  have HEB3:=hid B9
  clear hK K O B9
  refine zI ?_
  go_wp2_with fail
  exact pa_end HE3.out HLB3.out HEB3.out (by rw[HPS.out]) (by rw[HPS.out];exact IsCs.nil _ _) rfl rfl
  ):P:=h
theorem Parse_s{w:World}{s:List UInt8}(hl:s.length <=20000)(ht:Tab w):Calls prog 40 #[qB s] w (PaR w s) :=by
  have hmf:∀(fn:Fn) (first cap:Array Value) (w:World),(Instr.makeFunc fn first cap).run prog w =.ok (.func fn first cap) w:=λ_ _ _ _ =>rfl
  obtain⟨sb,hsb⟩:∃y,(⟨s.toArray⟩:ByteArray)=y:=⟨_,rfl⟩
  obtain⟨n,hn⟩:∃n,s.length =n:=⟨_,rfl⟩
  have hsz:sb.size =n:=by rw[<-hsb,<-hn];rfl
  have hle:¬(20000:Int) < (n:Int) :=ze
  have HSB:=hid hsb
  have HN:=hid (zL hn hl)
  have h1:(w.alloc (.cells #[.slice none 0 0] 25)).heap.size =w.heap.size + 1:=zo
  have h2:((w.alloc (.cells #[.slice none 0 0] 25)).alloc (.cells #[.int .i64 0] 38)).heap.size =w.heap.size + 2:=zo
  obtain⟨W,hW,P0⟩:∃W,W =((w.alloc (.cells #[.slice none 0 0] 25)).alloc (.cells #[.int .i64 0] 38)).alloc (.cells #[.string sb] 131)/\PaW w (w.heap.size + 2) [] [] (.slice none 0 0) s W:=
    ⟨_,rfl,(((Ext.refl w).alloc _).alloc _).alloc _,by rw[qB,hsb];exact Bk.newE _ _ h2 _ _,(Bk.new w _ _).ext (((Ext.refl _).alloc _).alloc _),(Bk.newE _ _ h1 _ _).ext ((Ext.refl _).alloc _),RwK.nil _ _ _ _,CsR.nil _ _ _⟩
  have HP0:=hid P0
  have HTB:=hid ht
  obtain⟨xs,hxs⟩:∃x,qB s =x:=⟨_,rfl⟩
  rw[hxs]
  have hxs2:xs =.string sb:=by rw[<-hxs,qB,hsb]
  subst hxs2
  clear hsb hn hl ht P0 hxs h1 h2
  go_enter_defers func40,ntmps40
  go_wp2_with fail
  rw[<-hW]
  clear hW hle
  go_loopg [5] n (λgk v5 wr =>∃s':List UInt8,s'.length <=gk/\Hid (∃(l:List Cl) (M:List (List Value)) (lv:Value) (k:Nat),PaW w (w.heap.size + 2) l M lv s' wr/\l.length + s'.length <=20000/\s'.length <=k/\clP s.length s =(clP k s').map (l ++ ·)))
  case atStart =>exact⟨s,Nat.le_of_eq HN.out.1,hid ⟨[], [],_,s.length,HP0.out,by have:=HN.out.2;simpa using this,zN _,by cases clP s.length s <;> rfl⟩⟩
  case round =>
    obtain⟨s',hg,S⟩ :=hrel
    obtain⟨l,M,lv,k,hP,hln,hk,hT⟩ :=S.out
    have HP:=hid hP
    have HLN:=hid (zL hg hln)
    have HK:=hid hk
    have HT:=hid hT
    clear S hP hln hk hT hg
    by_cases hs:s' = []
    · have HSE:=hid hs
      obtain⟨sb',hsb⟩:∃y,(⟨s'.toArray⟩:ByteArray)=y:=⟨_,rfl⟩
      have hne:(sb'.toList == [])=true:=by rw[<-hsb,seq_nil,hs];rfl
      have c0:wr.cell? ⟨w.heap.size + 2,0,none⟩=some (.string sb') :=by rw[<-hsb];exact HP.out.b.c 0 _ rfl
      clear hsb hs
      go_upto_region 11 with fail
      clear c0 hne
      have HTT:=hid (show clP s.length s =some l by rw[HT.out,HSE.out];cases k <;> simp[clP])
      refine wp_region_lit ?_
      refine stL (λK hK =>wp_ld (p:=.pointer (some ⟨w.heap.size,0,none⟩)) (u:=lv) (ld_Cs _ _ _ (HP.out.lb.c 0 _ rfl)) (hK _ _ ?_))
      clear hK K
      go_simp
      obtain⟨pb,hpb⟩:∃y,(⟨(prS l).toArray⟩:ByteArray)=y:=⟨_,rfl⟩
      obtain⟨pe,hpe⟩:∃y,prE l =y:=⟨_,rfl⟩
      have HPR:=hid (print_f (HP.out.cr.is HP.out.rw (zN _) |>.low (Nat.zero_le _)) (by have:=HLN.out.2;omega) HP.out.cr.nmok (HTB.out.ext HP.out.e))
      unfold PrP at HPR
      rw[show qB (prS l)=.string pb by rw[qB,hpb],hpe]at HPR
      have HPB:=hid (zL hpb hpe)
      clear hpb hpe
      refine stL (λK hK =>?_)
      refine qM (us:= [lv]) (en func37) zc HPR.out (λv X1 h =>hK _ _ ?_) (λch X h =>by{obtain⟨hx,_⟩ :=h;cases hx}) (λX h =>by{obtain⟨hx,_⟩ :=h;cases hx})
      clear hK K HPR
      obtain⟨h0,e1⟩ :=h
      cases h0
      have HE:=hid (HP.out.e.trans e1)
      have HLB:=hid (HP.out.lb.ext e1)
      have HEB:=hid (HP.out.eb.ext e1)
      have HIS:=hid ((HP.out.cr.is HP.out.rw (zN _)).ext e1)
      clear e1
      go_simp
      refine stL (λK hK =>qV (hK _ _ ?_))
      clear hK K
      go_simp
      refine wpList_step λK hK =>?_
      go_simp
      refine hK _ _ ?_
      clear hK K
      refine wpList_step λK hK =>?_
      go_simp
      refine hK _ _ ?_
      clear hK K
      refine stL (λK hK =>qV (hK _ _ ?_))
      clear hK K
      go_simp
      refine stL (λK hK =>qV (hK _ _ ?_))
      clear hK K
      go_simp
      refine zI ?_
      have HQ:=hid (show paE s =if pe =0/\prS l =s then(l,0)else([],420)by
        rw[paE,if_neg (by have:=HN.out.2;omega),HTT.out]
        dsimp only
        rw[HPB.out.2,prS,HPB.out.2]
        by_cases h:pe =0
        ·rw[if_pos h]
        ·rw[if_neg (λe =>h e.1),if_neg (λe =>h e.1)])
      have bad:∀(h:¬(pe =0/\prS l =s)),paE s =([],420) :=λh =>by rw[HQ.out,if_neg h]
      have BAD:=hid bad
      clear bad
      by_cases hz:pe =0
      · by_cases he:prS l =s
        · have HPS:=hid (show paE s =(l,0)by rw[HQ.out,if_pos ⟨hz,he⟩])
          have hpz:(pe !=0)=false:=by simpa using hz
          have hbe:(pb.toList ==sb.toList)=true:=by rw[<-HPB.out.1,<-HSB.out,jM];exact decide_eq_true he
          have hbn:(pb.toList !=sb.toList)=false:=by rw[bne,hbe];rfl
          clear hz he BAD HQ
          go_upto_region 14 with fail
          refine wp_region_lit ?_
          refine stL (λK hK =>wp_ld (p:=.pointer (some ⟨w.heap.size,0,none⟩)) (u:=lv) (ld_Cs _ _ _ (HLB.out.c 0 _ rfl)) (hK _ _ ?_))
          clear hK K
          try go_simp
          refine stL (λK hK =>?_)
          refine stCO 0 (u:=lv) HLB.out (st_Cs HP.out.rw) rfl HP.out.rw.nw (λX2 B9 O =>hK _ _ ?_)
          have HE2:=hid (O.ext HE.out (zN _))
          have HEB2:=hid (O.bk HEB.out ze)
          have HLB2:=hid B9
          have HIS2:=hid (HIS.out.stb1 O ze)
          clear hK K O B9
          refine stL (λK hK =>?_)
          refine stCO 0 (u:=.int .i64 0) HEB2.out (st_e _) rfl (NoWord.int64 _) (λX3 B9 O =>hK _ _ ?_)
          have HE3:=hid (O.ext HE2.out (Nat.le_succ _))
          have HLB3:=hid (O.bk HLB2.out ze)
          have HEB3:=hid B9
          have HIS3:=hid (HIS2.out.stb1 O ze)
          clear hK K O B9
          refine zI ?_
          go_wp2_with fail
          exact pa_end HE3.out HLB3.out HEB3.out (by rw[HPS.out]) (by rw[HPS.out];exact HIS3.out.low ze) rfl rfl
        · have HPS:=hid (BAD.out (λe =>he e.2))
          have hpz:(pe !=0)=false:=by simpa using hz
          have hbe:(pb.toList ==sb.toList)=false:=by rw[<-HPB.out.1,<-HSB.out,jM];exact decide_eq_false he
          have hbn:(pb.toList !=sb.toList)=true:=by rw[bne,hbe];rfl
          clear hz he BAD HQ
          exact tNpa_1
      · have HPS:=hid (BAD.out (λe =>hz e.1))
        have hpz:(pe !=0)=true:=by simpa using hz
        clear hz BAD HQ
        exact tNpa_1
    · obtain⟨sb',hsb⟩:∃y,(⟨s'.toArray⟩:ByteArray)=y:=⟨_,rfl⟩
      have hne:(sb'.toList == [])=false:=by rw[<-hsb,seq_nil];exact decide_eq_false hs
      have c0:wr.cell? ⟨w.heap.size + 2,0,none⟩=some (.string sb') :=by rw[<-hsb];exact HP.out.b.c 0 _ rfl
      obtain⟨k',rfl⟩:∃k',k =k' + 1:=⟨k - 1,by have:=HK.out;have:s'.length≠0:=λe =>hs (List.length_eq_zero_iff.1 e);omega⟩
      obtain⟨T,hT0⟩:∃T,clP (k' + 1) s' =T:=⟨_,rfl⟩
      have HTT:=hid (show clP s.length s =T.map (l ++ ·)by rw[HT.out,hT0])
      have HV0:=hid (show T =_ from hT0.symm.trans (clP_one hs))
      have HO0:=hid (Ob.of (g:=w.heap.size + 2) (Ext.refl wr))
      have HB0:=hid HP.out.b
      have HL0:=hid (zN s'.length)
      have HSL:=hid (show s'.length <=20000 by have:=HLN.out;omega)
      have HBW:=hid HP.out.b.lt
      clear hsb hs hT0 HT
      go_upto_region 6 with fail
      clear c0 hne
      refine wp_region_lit ?_
      refine stL (λK hK =>qV (hK _ _ ?_))
      clear hK K
      go_simp
      refine stL (λK hK =>?_)
      refine qM (us:= [.pointer (some ⟨w.heap.size + 2,0,none⟩)]) (en func76) zc (word_f (s:=s') HB0.out (by have:=HSL.out;omega)) (λv X1 h =>hK _ _ ?_) (λch X h =>by{obtain⟨h1,_⟩ :=h.pan;cases h1}) (λX h =>(h.big).elim)
      clear hK K
      obtain⟨nm,r1,h1,h2,h3,rfl⟩ :=h.ret
      simp only[Option.some.injEq,Prod.mk.injEq]at h1
      obtain⟨h1,h0⟩ :=h1
      have HO1:=hid (HO0.out.trans h2)
      have HB1:=hid h3
      have hv:=HV0.out
      rw[h1,h0]at hv
      have HV1:=hid hv
      have HL1:=hid (show r1.length <=s'.length by rw[<-h0];exact(xR qH s').2)
      have HNM:=hid (show nm.length <=1000000 by rw[<-h1];have:=(xR qH s').1;have:=HSL.out;omega)
      clear h h1 h0 h2 h3 hv HV0 HL0 HO0 HB0
      try go_simp
      have hbd:∀w',(Instr.build 34 #[(0,qB nm)]).run prog w' =.ok (.agg (qB nm ::zNd).toArray) w':=λw' =>by unfold qB zNd;go_simp
      refine stL (λK hK =>wp_bd (v:=.agg (qB nm ::zNd).toArray) zac (hK _ _ ?_) (ho:=rfl))
      clear hK K hbd
      try go_simp
      refine stL (λK hK =>?_)
      refine jJ (vs:=zCl) al_Cl (λBn e3 =>hK _ _ ?_)
      obtain⟨C,hC⟩:∃g,X1.heap.size =g:=⟨_,rfl⟩
      rw[hC]at Bn ⊢
      generalize X1.alloc (.cells zCl.toArray 34)=Y1 at Bn e3 ⊢
      clear hK K
      try go_simp
      refine stL (λK hK =>?_)
      refine zE (us:=qB nm ::zNd) Bn st_Cl rfl rfl nwZCl (λX2 B8 O =>hK _ _ ?_)
      have HC:=hid (show w.heap.size + 2 < C/\wr.heap.size <=C by have h1:=HO1.out.size;have h2:=HBW.out;omega)
      have e5:=O.ext e3 (Nat.le_of_eq hC)
      have HO2:=hid (HO1.out.then e5)
      have HB2:=hid (HB1.out.ext e5)
      have HC2:=hid B8
      have HV2:=HV1
      have HL2:=HL1
      clear hK K O Bn e3 hC B8 e5 HO1 HB1 HV1 HL1
      refine zI ?_
      go_upto_region 7 with fail
      refine wp_region_lit ?_
      refine stL (λK hK =>qV (hK _ _ ?_))
      clear hK K
      go_simp
      refine stL (λK hK =>?_)
      refine qM (us:= [.pointer (some ⟨w.heap.size + 2,0,none⟩),qB [32,61,32]]) (en func77) zc (jZ (s:=r1) (x:= [32,61,32]) HB2.out) (λv X3 h =>hK _ _ ?_) (λch X h =>by{obtain⟨h1,rfl,h2⟩ :=xV h;exact pa_pan ((HO2.out.trans h2).ext HP.out.e (Nat.le_add_right _ _)) (zN _) ((HO2.out.trans h2).bk HP.out.lb ze) HP.out.rw.nw ((HO2.out.trans h2).bk HP.out.eb ze) (NoWord.int64 _) (paE_no HN.out.2 (by rw[HTT.out,HV2.out,h1];rfl)) rfl rfl}) (λX h =>(h.big).elim)
      clear hK K
      obtain⟨r2,h1,h2,h3,rfl⟩ :=xU h
      have HO3:=hid (HO2.out.trans h2)
      have HB3:=hid h3
      have HC3:=hid (h2.bk HC2.out (by have:=HC.out;omega))
      have hv:=HV2.out
      rw[h1,Option.bind_some]at hv
      try dsimp only at hv
      have HV3:=hid hv
      have HL3:=hid (show r2.length <=s'.length by have:=qJ h1;have:=HL2.out;omega)
      clear hv HV2 HL2
      clear h h1 h2 h3 HO2 HB2 HC2
      try go_simp
      refine zI ?_
      go_upto_region 8 with fail
      refine wp_region_lit ?_
      refine stL (λK hK =>qV (hK _ _ ?_))
      clear hK K
      go_simp
      have HX:=hid (ex_f (w.heap.size + 2) 20 [] r2 (.slice none 0 0) X3 HB3.out (by have:=HL3.out;have:=HSL.out;omega) (IsSc.nil _ _) dcx)
      rw[show(21 - ((20:Nat):Int))=1 from rfl]at HX
      obtain⟨b0,hb⟩:∃b,X3.heap.size =b:=⟨_,rfl⟩
      have HBE:=hid (zL hb (show w.heap.size + 2 < b0/\C < b0/\wr.heap.size <=b0 by have:=HB3.out.lt;have:=HC3.out.lt;have:=HO3.out.size;omega))
      clear hb
      refine stL (λK hK =>?_)
      refine qM (us:= [.pointer (some ⟨w.heap.size + 2,0,none⟩),.slice none 0 0,.int .i64 1]) (en func78) zc (HX.out) (λv X4 h =>hK _ _ ?_) (λch X h =>by{obtain⟨h1,rfl,h2⟩ :=h.pan;exact pa_pan ((HO3.out.trans h2).ext HP.out.e (Nat.le_add_right _ _)) (zN _) ((HO3.out.trans h2).bk HP.out.lb ze) HP.out.rw.nw ((HO3.out.trans h2).bk HP.out.eb ze) (NoWord.int64 _) (paE_no HN.out.2 (by rw[HTT.out,HV3.out,h1];rfl)) rfl rfl}) (λX h =>(h.big).elim)
      clear hK K
      obtain⟨y0,r3,h1,h2,h3,us0,rfl,h4⟩ :=h.ret
      rw[HBE.out.1]at h4
      have HY:=hid h4
      have HO4:=hid (HO3.out.trans h2)
      have HB4:=hid h3
      have HC4:=hid (h2.bk HC3.out (by have:=HC.out;omega))
      have hv:=HV3.out
      rw[h1,Option.bind_some]at hv
      try dsimp only at hv
      have HV4:=hid hv
      have HL4:=hid (show r3.length <=s'.length by have:=exP_len 20 h1;have:=HL3.out;omega)
      clear hv HV3 HL3
      have HK4:=hid (Kc.refl b0 X4)
      clear h h1 h2 h3 h4 HX HO3 HB3 HC3
      try go_simp
      refine stL (λK hK =>wp_fa (fa_Cl1 C 0 _) (hK _ _ ?_))
      clear hK K
      try go_simp
      refine stL (λK hK =>?_)
      obtain⟨X5,hst,O,B9⟩ :=st_cl1 HC4.out (NoWord.string _) rfl nwZN HY.out.len HY.out.nw.1 HY.out.nw.2
      refine st_wp rfl zc zc hst (hK _ _ ?_)
      have HO5:=hid (HO4.out.new O HC.out.2)
      have HB5:=hid (O.bk HB4.out (by have:=HC.out;omega))
      have HC5:=hid B9
      have HK5:=hid (HK4.out.trans (Kc.only O HBE.out.2.2.1))
      have HV5:=HV4
      have HL5:=HL4
      clear hK K O B9 hst HO4 HB4 HC4 HK4 HV4 HL4
      try go_simp
      refine zI ?_
      go_upto_region 9 with fail
      refine wp_region_lit ?_
      refine stL (λK hK =>qV (hK _ _ ?_))
      clear hK K
      go_simp
      refine stL (λK hK =>?_)
      refine qM (us:= [.pointer (some ⟨w.heap.size + 2,0,none⟩),qB [10]]) (en func77) zc (jZ (s:=r3) (x:= [10]) HB5.out) (λv X6 h =>hK _ _ ?_) (λch X h =>by{obtain⟨h1,rfl,h2⟩ :=xV h;exact pa_pan ((HO5.out.trans h2).ext HP.out.e (Nat.le_add_right _ _)) (zN _) ((HO5.out.trans h2).bk HP.out.lb ze) HP.out.rw.nw ((HO5.out.trans h2).bk HP.out.eb ze) (NoWord.int64 _) (paE_no HN.out.2 (by rw[HTT.out,HV5.out,h1];rfl)) rfl rfl}) (λX h =>(h.big).elim)
      clear hK K
      obtain⟨r4,h1,h2,h3,rfl⟩ :=xU h
      have HO6:=hid (HO5.out.trans h2)
      have HB6:=hid h3
      have HC6:=hid (h2.bk HC5.out (by have:=HC.out;omega))
      have HK6:=hid (HK5.out.trans (Kc.ob h2 HBE.out.2.1))
      have HL9:=hid (show r4.length + 1 <=s'.length by have:=takeP_lt h1;have:=HL5.out;omega)
      have hv:=HV5.out
      rw[h1,Option.bind_some]at hv
      try dsimp only at hv
      have HV6:=hid hv
      have HL6:=hid (show r4.length <=s'.length by have:=qJ h1;have:=HL5.out;omega)
      clear hv HV5 HL5
      clear h h1 h2 h3 HO5 HB5 HC5 HK5
      try go_simp
      refine zI ?_
      go_upto_region 10 with fail
      refine wp_region_lit ?_
      refine stL (λK hK =>wp_ld (p:=.pointer (some ⟨w.heap.size,0,none⟩)) (u:=lv) (ld_Cs _ _ _ ((HO6.out.bk HP.out.lb ze).c 0 _ rfl)) (hK _ _ ?_))
      clear hK K
      go_simp
      refine stL (λK hK =>wp_ld (p:=.pointer (some ⟨C,0,none⟩)) (u:=.agg (qB nm ::us0).toArray) (ld_Cl _ _ _ (by rw[List.length_cons,HY.out.len]) HC6.out) (hK _ _ ?_))
      clear hK K
      try go_simp
      have HCO:=hid (show(qB nm ::us0).all (λu =>u.oneCell')=true by rw[List.all_cons,HY.out.nw.2];rfl)
      refine stL (λK hK =>wp_bsC (by rw[List.length_cons,HY.out.len]) HCO.out (λe7 hs =>hK _ _ ?_))
      clear hK K
      have HO7:=hid (HO6.out.then e7)
      have HB7:=hid (HB6.out.ext e7)
      have HK7:=hid (HK6.out.trans (Kc.ext e7))
      have HSR:=hid hs
      have HSZ:=hid (show w.heap.size + 2 + 1 <=X6.heap.size by have:=HB6.out.lt;omega)
      obtain⟨p7,hp7⟩:∃p,X6.heap.size =p:=⟨_,rfl⟩
      have HSZ7:=hid (show w.heap.size + 2 + 1 <=(X6.alloc (.cells (qB nm ::us0).toArray 34)).heap.size by have:=HSZ.out;have:=e7.size;omega)
      rw[hp7]at HSR ⊢
      generalize X6.alloc (.cells (qB nm ::us0).toArray 34)=X7 at HO7 HB7 HK7 HSR HSZ7 ⊢
      clear e7 hs hp7 HO6 HB6 HC6 HK6
      try go_simp
      refine stL (λK hK =>?_)
      have HRW7:=hid (HP.out.rw.ob HO7.out (Nat.lt_succ_self _))
      have HCR7:=hid (HP.out.cr.kc (Kc.ob HO7.out (Nat.lt_succ_self _)))
      refine wp_clo 33 (.tmp 30) (.tmp 32) rfl (w.heap.size + 2 + 1) M (qB nm ::us0) lv (.slice (some ⟨p7,0,none⟩) 1 1) zc zc HRW7.out ⟨by rw[List.length_cons,HY.out.len],λv hv =>by rcases List.mem_cons.1 hv with rfl|hv;exact NoWord.string _;exact HY.out.nw.1 v hv,HCO.out⟩ HSR.out (by rw[HP.out.cr.1];have:=HLN.out;omega) HSZ7.out (λv8 X8 q1 q2 q3 q4 =>hK _ _ ?_)
      clear hK K
      have HNO:∀g,lv.ownBlock =some g ->w.heap.size + 2 + 1 <=g/\g < wr.heap.size:=World.ownsRow.lt HP.out.rw.1
      have HY8:NdI v8.ownBlock (w.heap.size + 2 + 1) X8 y0 us0:=(NdI.of (HY.out.kc HK7.out) HBE.out.2.1 (λg e =>by have:=(HNO g e).2;have:=HBE.out.2.2.2;omega)).grown q2 q3 q4
      have HCR8:=(HCR7.out.grown q2 q3 q4).snoc (c:=⟨nm,y0⟩) HNM.out HY8
      have HLB8:=jO (HO7.out.bk HP.out.lb ze) q2 (λe =>by have:=(HNO _ e).1;omega)
      have HEB8:=jO (HO7.out.bk HP.out.eb ze) q2 (λe =>by have:=(HNO _ e).1;omega)
      have HB8:=jO HB7.out q2 (λe =>by have:=(HNO _ e).1;omega)
      have HE7:=HO7.out.ext HP.out.e (Nat.le_add_right _ _)
      have HE8:Ext w X8:=Below.grown HE7 q2 HE7.size (λk hk =>by have:=(HNO _ hk).1;omega)
      try go_simp
      refine stL (λK hK =>?_)
      refine stCO 0 (u:=v8) HLB8 (st_Cs q1) rfl HP.out.rw.nw (λX9 B9 O =>hK _ _ ?_)
      have P9:PaW w (w.heap.size + 2) (l ++ [⟨nm,y0⟩]) (M ++ [qB nm ::us0]) v8 r4 X9:=⟨O.ext HE8 (zN _),O.bk HB8 ze,B9,O.bk HEB8 ze,q1.ob (Ob.only O) ze,HCR8.kc (Kc.only O ze)⟩
      have HP9:=hid P9
      have HT9:=hid (show clP s.length s =(clP k' r4).map ((l ++ [⟨nm,y0⟩]) ++ ·)by rw[HTT.out,HV6.out];cases clP k' r4 <;> simp)
      clear hK K O B9 P9 HB8 HLB8 HEB8 HCR8 HY8 HE7 HE8 HNO q1 q2 q3 q4 HRW7 HCR7 HO7 HB7 HK7
      refine zI ?_
      go_wp2_with fail
      go_roundg r4.length
      case measure =>have:=HL9.out;have:=HLN.out.1;omega
      case rel =>exact⟨r4,zN _,hid ⟨_,_,_,k',HP9.out,by have:=HL9.out;have:=HLN.out.2;rw[zQ];simp;omega,by have:=HL9.out;have:=HK.out;omega,HT9.out⟩⟩
theorem ParseN_f{w:World}{s:List UInt8}(hl:s.length <=4611686018427387904)(ht:Tab w):Calls prog 40 #[qB s] w (PaR w s) :=by
  by_cases h:20000 < s.length
  ·exact Parse_big h hl
  ·exact Parse_s ze ht
end
end Go.Proofs.YtenhciieboegbaaGreatDoor
