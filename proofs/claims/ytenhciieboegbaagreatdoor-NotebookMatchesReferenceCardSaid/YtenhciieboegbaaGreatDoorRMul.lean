/-
  The law's replaced: a cell's name replaced by five in an expression.
  The law NotebookLimits in plain words: which deep expressions, and which long lists, are right.
  The law NotebookJoins at every input. (Printed by wip/gen/njo.py.)
  The law NotebookLimits at every input. (Printed by wip/gen/nli.py.)
  Expressions in memory, the blocks of their rows in a set; an expression with a change (the law NotebookMatchesReference).
  The reference package: Mul. Every two integers of at most 2^28 words.
-/
import Derived.Test.YtenhciieboegbaaGreatDoorNr1
import Derived.Test.YtenhciieboegbaaGreatDoorNsn
import Derived.Test.YtenhciieboegbaaGreatDoorNr8
import Derived.Test.YtenhciieboegbaaGreatDoorRText
import Derived.Test.YtenhciieboegbaaGreatDoorNr5
import Derived.Test.YtenhciieboegbaaGreatDoorVld
namespace Go.Proofs.YtenhciieboegbaaGreatDoor
open Go Go.RowKit Go.Maps
theorem RwN.zero(w:World):RwK 32 8 w.heap.size [] (.slice (some ⟨w.heap.size,0,none⟩) 0 0) (w.alloc (.cells #[] 32)) :=by
  refine⟨⟨by simp,.inr ⟨w.heap.size,0,#[],rfl,Nat.le_refl _,World.alloc_heap_new _ _,?_,?_,?_,?_⟩⟩,λg cs e fz h ho =>?_⟩
  ·simp
  ·simp
  ·simp
  ·simp
  · obtain rfl:w.heap.size =g:=by injection h
    rw[World.alloc_heap_new]at ho
    cases ho
    intro u hu
    simp at hu
section
variable {ops:Array Oper} {Q:Exit → Act → World → Prop} {ds:List (Option Tmp)} {a0:Act} {w0:World} {L:List (Value → World → Prop)} {boxes:List Nat} {i k:Nat} {o:Oper} {os:List Oper}
end
section
end
end Go.Proofs.YtenhciieboegbaaGreatDoor
namespace Go.Proofs.YtenhciieboegbaaGreatDoor
open Go Go.RowKit
theorem hg_le{k k':Nat}(h:k ≤ k'):∀ {x:Nd},hgN k x → hgN k' x:=by
  induction h with
  |refl =>exact λh =>h
  |step _ ih =>exact λh =>hg_up _ _ (ih h)
theorem hg_leaf{k:Nat}{x:Nd}(h:x.ps = []):hgN (k + 1) x:=λa ha =>by rw[h]at ha;cases ha
def LmL(l:List Cl):Prop:=l.length ≤ 1000 ∧ NmOk l ∧ ∀c∈l,hgN 100 c.e
end Go.Proofs.YtenhciieboegbaaGreatDoor
namespace Go.Proofs.YtenhciieboegbaaGreatDoor
open Go Go.RowKit Go.Maps
theorem flat_lenK{k:Nat}:∀ {L:List (List Value)},(∀r∈L,r.length =k) → L.flatten.length =L.length * k
  | [],_ =>by simp
  | r ::L,h =>by
    rw[List.flatten_cons,List.length_append,h r (by simp),flat_lenK (λx hx =>h x (by simp[hx])),List.length_cons,Nat.succ_mul];omega
section
variable {ops:Array Oper} {Q:Exit → Act → World → Prop} {ds:List (Option Tmp)} {a0:Act} {w0:World} {L:List (Value → World → Prop)} {boxes:List Nat} {i k:Nat} {o:Oper} {os:List Oper}
end
section
end
end Go.Proofs.YtenhciieboegbaaGreatDoor
namespace Go.Proofs.YtenhciieboegbaaGreatDoor
open Go Go.RowKit Go.Maps
theorem ix_CC(g c n j:Nat)(h:j < n)(w:World):(Instr.indexAt 36 (.slice (some ⟨g,0,none⟩) n c) (.int .i64 (j:Int))).run Tryz.prog w =.ok (.pointer (some ⟨g,j,none⟩)) w:=by
  have h1:(0:Int) ≤ (j:Int) :=by omega
  have h2:(j:Int) < (n:Int) :=by omega
  have h3:0 + j =j:=by omega
  go_simp
theorem ld_Cls{w:World}{a:Addr}{ao:Option Addr}{n c:Nat}(h:World.cell? w a =some (.slice ao n c)):(Instr.loadAt 25 (.pointer (some a))).run Tryz.prog w =.ok (.slice ao n c) w:=by go_simp
theorem bd_Nd1(w:World):(Instr.build 32 #[(0,.int .i64 1)]).run Tryz.prog w =.ok (.agg #[.int .i64 1,.string ⟨#[]⟩,.int .i64 0,.bool false,.slice none 0 0,.int .i64 0,.int .i64 0,.slice none 0 0]) w:=by go_simp
def usZ:List Value:= [.int .i64 1,.string ⟨#[]⟩,.int .i64 0,.bool false,.slice none 0 0,.int .i64 0,.int .i64 0,.slice none 0 0]
theorem nwUsZ:∀v∈usZ,NoWord v:=nwNd
section
variable {P:Program} {ops:Array Oper} {Q:Exit → Act → World → Prop} {ds:List (Option Tmp)} {a0:Act} {w0:World} {L:List (Value → World → Prop)} {boxes:List Nat} {i k:Nat} {o:Oper} {os:List Oper}
end
section
end
end Go.Proofs.YtenhciieboegbaaGreatDoor
namespace Go.Proofs.YtenhciieboegbaaGreatDoor
open Go Go.RowKit Go.Maps
mutual
def NdS(S:Nat → Prop)(w:World):Nd → List Value → Prop
  | .mk op nm n v lo hi ps,us =>NdBd nm op ∧ ∃(s:Bool) (a:Option Addr) (m c:Nat) (ao:Option Addr) (cp:Nat),us = [.int .i64 op,encS nm,.int .i64 n,.bool s,.slice a m c,.int .i64 lo,.int .i64 hi,.slice ao ps.length cp] ∧
      IsI 136 v (.agg #[.bool s,.slice a m c]) w ∧ ps.length ≤ cp ∧ cp ≤ 9223372036854775807 ∧ (ps≠ [] → ∃g o,ao =some ⟨g,o,none⟩ ∧ S g ∧ NdSR S w ps g o)
def NdSR(S:Nat → Prop)(w:World):List Nd → Nat → Nat → Prop
  | [],_,_ =>True
  |x ::t,g,o =>(∃us:List Value,us.length =8 ∧ (∀j u,us[j]? =some u → World.cell? w ⟨g,o + j,none⟩=some u) ∧ NdS S w x us) ∧ NdSR S w t g (o + 8)
end
mutual
theorem NdS.kept{S S':Nat → Prop}{w w':World}(hS:∀g,S g → S' g)(hc:∀(p:Addr) (v:Value),S p.block → World.cell? w p =some v → World.cell? w' p =some v)(hg:Gr w w'):∀(x:Nd) (us:List Value),NdS S w x us → NdS S' w' x us
  | .mk op nm n v lo hi ps,us,h =>by
    rw[NdS]at h ⊢
    obtain⟨h0,s,a,m,c,ao,cp,h1,h2,h3,h4,h5⟩ :=h
    refine⟨h0,s,a,m,c,ao,cp,h1,IsI.gstb _ _ _ _ _ hg h2,h3,h4,λhne =>?_⟩
    obtain⟨g,o,q1,q2,q3⟩ :=h5 hne
    exact⟨g,o,q1,hS g q2,NdSR.kept hS hc hg ps g o q2 q3⟩
theorem NdSR.kept{S S':Nat → Prop}{w w':World}(hS:∀g,S g → S' g)(hc:∀(p:Addr) (v:Value),S p.block → World.cell? w p =some v → World.cell? w' p =some v)(hg:Gr w w'):∀(l:List Nd) (g o:Nat),S g → NdSR S w l g o → NdSR S' w' l g o
  | [],_,_,_,_ =>by rw[NdSR];trivial
  | x ::t,g,o,hb,h =>by
    rw[NdSR]at h ⊢
    obtain⟨⟨us,h1,h2,h3⟩,h4⟩ :=h
    exact⟨⟨us,h1,λj u hj =>hc _ _ hb (h2 j u hj),NdS.kept hS hc hg x us h3⟩,NdSR.kept hS hc hg t g (o + 8) hb h4⟩
end
mutual
theorem NdC.toS{B:Nat}{w:World}:∀(x:Nd) (us:List Value),NdC B w x us → NdS (λg =>B ≤ g ∧ g < w.heap.size) w x us
  | .mk op nm n v lo hi ps,us,h =>by
    rw[NdC]at h
    rw[NdS]
    obtain⟨h0,s,a,m,c,ao,cp,h1,h2,h3,h4,h5⟩ :=h
    refine⟨h0,s,a,m,c,ao,cp,h1,h2,h3,h4,λhne =>?_⟩
    obtain⟨g,o,q1,q2,q3⟩ :=h5 hne
    refine⟨g,o,q1,⟨q2,?_⟩,NdR.toS ps g o q3⟩
    match ps,hne,q3 with
    | y ::t,_,q3 =>
      rw[NdR]at q3
      obtain⟨⟨vs,r1,r2,-⟩,-⟩ :=q3
      exact World.block_lt_of_cell? w _ (r2 0 _ (List.getElem?_eq_getElem (by omega)))
theorem NdR.toS{B:Nat}{w:World}:∀(l:List Nd) (g o:Nat),NdR B w l g o → NdSR (λg =>B ≤ g ∧ g < w.heap.size) w l g o
  | [],_,_,_ =>by rw[NdSR];trivial
  | x ::t,g,o,h =>by
    rw[NdR]at h
    rw[NdSR]
    obtain⟨⟨us,h1,h2,h3⟩,h4⟩ :=h
    exact⟨⟨us,h1,h2,NdC.toS x us h3⟩,NdR.toS t g (o + 8) h4⟩
end
mutual
theorem NdS.toC{S:Nat → Prop}{B:Nat}{w:World}(hS:∀g,S g → B ≤ g):∀(x:Nd) (us:List Value),NdS S w x us → NdC B w x us
  | .mk op nm n v lo hi ps,us,h =>by
    rw[NdS]at h
    rw[NdC]
    obtain⟨h0,s,a,m,c,ao,cp,h1,h2,h3,h4,h5⟩ :=h
    refine⟨h0,s,a,m,c,ao,cp,h1,h2,h3,h4,λhne =>?_⟩
    obtain⟨g,o,q1,q2,q3⟩ :=h5 hne
    exact⟨g,o,q1,hS g q2,NdSR.toC hS ps g o q3⟩
theorem NdSR.toC{S:Nat → Prop}{B:Nat}{w:World}(hS:∀g,S g → B ≤ g):∀(l:List Nd) (g o:Nat),NdSR S w l g o → NdR B w l g o
  | [],_,_,_ =>by rw[NdR];trivial
  | x ::t,g,o,h =>by
    rw[NdSR]at h
    rw[NdR]
    obtain⟨⟨us,h1,h2,h3⟩,h4⟩ :=h
    exact⟨⟨us,h1,h2,NdS.toC hS x us h3⟩,NdSR.toC hS t g (o + 8) h4⟩
end
theorem NdS.ext{S:Nat → Prop}{w w':World}(e:Ext w w'){x:Nd}{us:List Value}(h:NdS S w x us):NdS S w' x us:=NdS.kept (λ_ h =>h) (λ_ _ _ hv =>e.cell hv) e.gr x us h
theorem NdS.mono{S S':Nat → Prop}{w:World}(hS:∀g,S g → S' g){x:Nd}{us:List Value}(h:NdS S w x us):NdS S' w x us:=NdS.kept hS (λ_ _ _ hv =>hv) (Gr.refl w) x us h
theorem NdS.ob{S:Nat → Prop}{g:Nat}{w w':World}(O:Ob g w w')(hg:¬S g){x:Nd}{us:List Value}(h:NdS S w x us):NdS S w' x us:=NdS.kept (λ_ h =>h) (λ_p _v hp hv =>O.cell hv (λe =>hg (e ▸ hp))) O.gr x us h
theorem NdS.out{S:Nat → Prop}{w:World}{op:Int}{nm:List UInt8}{n v lo hi:Int}{ps:List Nd}{us:List Value}(h:NdS S w (.mk op nm n v lo hi ps) us):NdBd nm op ∧ ∃(s:Bool) (a:Option Addr) (m c:Nat) (ao:Option Addr) (cp:Nat),us = [.int .i64 op,encS nm,.int .i64 n,.bool s,.slice a m c,.int .i64 lo,.int .i64 hi,.slice ao ps.length cp] ∧
      IsI 136 v (.agg #[.bool s,.slice a m c]) w ∧ ps.length ≤ cp ∧ cp ≤ 9223372036854775807 ∧ (ps≠ [] → ∃g o,ao =some ⟨g,o,none⟩ ∧ S g ∧ NdSR S w ps g o) :=by rw[NdS]at h;exact h
theorem NdSR.of{S:Nat → Prop}{w:World}:∀ {l:List Nd} {g o:Nat},(∀i x,l[i]? =some x → ∃us:List Value,us.length =8 ∧ (∀j u,us[j]? =some u → World.cell? w ⟨g,o + 8 * i + j,none⟩=some u) ∧ NdS S w x us) → NdSR S w l g o
  | [],_,_,_ =>by rw[NdSR];trivial
  | x ::t,g,o,h =>by
    rw[NdSR]
    refine⟨?_,NdSR.of λi y hi =>?_⟩
    · obtain⟨us,h1,h2,h3⟩ :=h 0 x rfl
      exact⟨us,h1,λj u hj =>by simpa using h2 j u hj,h3⟩
    · obtain⟨us,h1,h2,h3⟩ :=h (i + 1) y (by simpa using hi)
      exact⟨us,h1,λj u hj =>by have:=h2 j u hj;rwa [show o + 8 * (i + 1) + j =o + 8 + 8 * i + j by omega]at this,h3⟩
theorem NdS.nw{S:Nat → Prop}{w:World}{x:Nd}{us:List Value}(h:NdS S w x us):us.length =8 ∧ (∀v∈us,NoWord v) ∧ us.all (λu =>u.oneCell')=true:=by
  obtain⟨op,nm,n,v,lo,hi,ps⟩ :=x
  obtain⟨-,_,_,_,_,_,_,rfl,-⟩ :=h.out
  exact⟨rfl,nwNd,rfl⟩
theorem NdSR.rows{S:Nat → Prop}{w:World}:∀ {l:List Nd} {g o:Nat},NdSR S w l g o → ∃M:List (List Value),M.length =l.length ∧ (∀us∈M,us.length =8) ∧ (∀j u,M.flatten[j]? =some u → World.cell? w ⟨g,o + j,none⟩=some u) ∧ ∀(i:Nat) (x:Nd),l[i]? =some x → ∃us:List Value,M[i]? =some us ∧ NdS S w x us
  | [],_,_,_ =>⟨[],rfl,λ_ h =>(by cases h),λj u h =>by simp at h,λi x h =>by simp at h⟩
  | x :: t, g, o,h =>by
    rw[NdSR]at h
    obtain⟨⟨us,h1,h2,h3⟩,h4⟩ :=h
    obtain⟨M,k1,k2,k3,k4⟩ :=NdSR.rows (l:=t) h4
    refine⟨us ::M,by simp[k1],λvs hv =>by rcases List.mem_cons.1 hv with rfl|hv;exact h1;exact k2 vs hv,λj u hj =>?_,λi y hi =>?_⟩
    · rw [List.flatten_cons]at hj
      rcases Nat.lt_or_ge j 8 with hlt|hge
      · rw[List.getElem?_append_left (by omega)]at hj
        exact h2 j u hj
      · rw[List.getElem?_append_right (by omega),h1]at hj
        have:=k3 (j - 8) u hj
        rwa [show o + 8 + (j - 8)=o + j by omega]at this
    · cases i with
      | zero => obtain rfl:x =y:=by simpa using hi
                exact⟨us,rfl,h3⟩
      |succ i =>exact k4 i y (by simpa using hi)
/-! ### Changes -/
def chO(k:Nat):Nd → Nd
  | .mk op nm n v lo hi ps =>if k =0 then .mk (op + 1) nm n v lo hi ps else if k =1 then .mk op (nm ++ [120]) n v lo hi ps else if k =2 then .mk op nm (n + 61) v lo hi ps else if k =3 then .mk op nm n v (lo + 995) hi ps
    else if k =4 then .mk op nm n v lo hi (ps ++ [ndE (.num 0)])else if k =5 then .mk op nm n (2 ^ 255) lo hi ps else if k =6 then .mk op nm n (2 ^ 256) lo hi ps else if k =7 then .mk op [123,121,125] n v lo hi ps else if k =8 then .mk op [] n v lo hi ps else .mk op nm n v lo hi ps
def chN:Nat → Nat → Nat → Nd → Nd
  |0,_,k,x =>chO k x
  |f + 1,t,k,x =>if 0 < t ∧ x.ps≠ []then .mk x.op x.nm x.n x.v x.lo x.hi (x.ps.set (t % x.ps.length) (chN f (t / 2) k (x.ps.getD (t % x.ps.length) x)))else chO k x
theorem hg_chO(k:Nat){K:Nat}{x:Nd}(h:hgN (K + 1) x):hgN (K + 2) (chO k x) :=by
  obtain⟨op,nm,n,v,lo,hi,ps⟩ :=x
  have h1:∀a∈ps,hgN (K + 1) a:=λa ha =>hg_up _ _ (h a ha)
  have h2:∀a∈ps ++ [ndE (.num 0)],hgN (K + 1) a:=λa ha =>by
    rcases List.mem_append.1 ha with ha|ha
    ·exact h1 a ha
    ·rw[List.mem_singleton.1 ha];exact hg_leaf rfl
  have key:∀y:Nd,(y.ps =ps ∨ y.ps =ps ++ [ndE (.num 0)]) → hgN (K + 2) y:=λy hy a ha =>by
    rcases hy with e|e
    ·rw[e]at ha;exact h1 a ha
    ·rw[e]at ha;exact h2 a ha
  refine key _ ?_
  simp only[chO]
  repeat' split
  all_goals first|exact .inl rfl|exact .inr rfl
theorem hg_ch:∀(f t k:Nat) {K:Nat} {x:Nd},hgN (K + 1) x → hgN (K + 2) (chN f t k x)
  |0,_,k,_,_,h =>hg_chO k h
  | f + 1, t,k,K,x,h =>by
    rw[chN]
    split
    · rename_i hc
      have hl:t % x.ps.length < x.ps.length:=Nat.mod_lt _ (List.length_pos_iff.2 hc.2)
      intro a ha
      rcases List.mem_or_eq_of_mem_set (show a∈x.ps.set _ _ from ha)with ha|rfl
      ·exact hg_up _ _ (h a ha)
      · have hm:x.ps.getD (t % x.ps.length) x∈x.ps:=by
          rw[List.getD_eq_getElem?_getD,List.getElem?_eq_getElem hl];exact List.getElem_mem hl
        have h0:=h _ hm
        cases K with
        |zero =>exact h0.elim
        |succ K =>exact hg_ch f (t / 2) k h0
    ·exact hg_chO k h
end Go.Proofs.YtenhciieboegbaaGreatDoor
namespace Go.Proofs.YtenhciieboegbaaGreatDoor
open Go Go.RowKit
theorem rmul_sign(s1 s2:Bool)(m1 m2:Nat)(z1 z2:Int)(h1:z1 =if s1 then -(m1:Int)else m1)(h2:z2 =if s2 then -(m2:Int)else m2):z1 * z2 =if (s1 !=s2)then -((m1 * m2:Nat):Int)else((m1 * m2:Nat):Int) :=by
  rw[h1,h2];cases s1 <;> cases s2 <;> simp[Int.neg_mul,Int.mul_neg]
theorem MulInv.drewN{w0 wr:World}{g N z e r:Nat}(h:MulInv w0 g N z e r wr)(n:Nat):MulInv w0 g N z e r (wr.drewN n) :=by
  obtain⟨ys,h1,h2,h3,h4,h5,h6⟩ :=h
  exact⟨ys,h1.ext ((Ext.refl _).drewN n),h2,h3,h4,h5,h6.drewN n⟩
theorem drewN_set(w:World)(p:Addr)(v:Value):∀n,(w.drewN n).setCell p v =(w.setCell p v).drewN n
  |0 =>rfl
  | n + 1 =>by
    show((w.drewN n).drew).setCell p v =((w.setCell p v).drewN n).drew
    rw[← drewN_set w p v n];rfl
set_option maxRecDepth 100000 in
set_option maxHeartbeats 2000000 in
theorem RMul_c (w : World)(s1 s2:Bool)(a1 a2:Option Addr)(n1 n2 c1 c2 k1 k2:Nat)(z1 z2:Int)(h1:IntAt w k1 s1 a1 n1 c1 z1)(h2:IntAt w k2 s2 a2 n2 c2 z2)(l1:k1 ≤ 268435456)(l2:k2 ≤ 268435456):Calls Tryz.prog 51 #[.agg #[.bool s1,.slice a1 n1 c1],.agg #[.bool s2,.slice a2 n2 c2]] w (RInt w (k1 + k2) (z1 * z2)) :=by
  obtain⟨W,hW,K0⟩ :=kq21 w s1 s2 a1 a2 n1 n2 c1 c2
  have b2:=hid (K0.bx w.heap.size s1 a1 n1 c1 (by simp))
  have b3:=hid (K0.bx (w.heap.size + 1) s2 a2 n2 c2 (by simp))
  have b4:=hid (show Bx W (w.heap.size + 1 + 1) false none 0 0 from K0.bx (w.heap.size + 2) false none 0 0 (by simp))
  have E:=hid K0.ext
  obtain⟨m1,⟨A,hA,lA,_,vA⟩,_,e1⟩ :=h1
  obtain⟨m2,⟨B,hB,lB,_,vB⟩,_,e2⟩ :=h2
  have HZ:=hid (rmul_sign s1 s2 m1 m2 z1 z2 e1 e2)
  rw[← vA,← vB]at HZ
  have HW1:=hid (hA.ext K0.ext)
  have HW2:=hid (hB.ext K0.ext)
  have HA:=hid hA.lt
  have HB:=hid hB.lt
  have HlB:=hid hB.len
  have HlA:=hid hA.len
  have sh1:=hA.shape
  have sh2:=hB.shape
  have HK:=hid (show n1 + n2 ≤ k1 + k2 by omega)
  have hn1:n1 ≤ 268435456:=by omega
  have hn2:n2 ≤ 268435456:=by omega
  clear K0 hA hB e1 e2 vA vB lA lB l1 l2
  rcases sh1 with sh1| ⟨b1,off1,rfl,hb1⟩ <;> rcases sh2 with sh2| ⟨b2',off2,rfl,hb2⟩
  all_goals
    go_enter Tryz.func51,Tryz.ntmps51
    go_upto_region 1 with(fail)
    rw[← hW]
    clear hW
    have F1:=b2.out.c0;have F2:=b2.out.c1;have F3:=b2.out.f0;have F4:=b2.out.f1
    have G1:=b3.out.c0;have G2:=b3.out.c1;have G3:=b3.out.f0;have G4:=b3.out.f1
    go_wp2_with (at_make;refine wpl_make rfl _ _ _ rfl (by kernel_rfl) _ _ (n1 + n2) rfl rfl (by omega) (by omega) (by omega) ?_;intro w1 e1 z1 o1)
    have I0:=hid (MulInv.start o1 e1 n2)
    clear o1 e1 z1 F1 F2 F3 F4 G1 G2 G3 G4
    go_loopw [6] (λi wr =>∃k:Nat,k ≤ n1 ∧ i =.int .i64 k ∧ Hid (MulInv W W.heap.size (n1 + n2) (k + n2) 0 (pv A k * natVal B) wr)) (λi _ =>n1 - (intOf i).toNat)
    case atStart =>exact⟨0,by omega,rfl,by simpa [pv]using I0⟩
    case round =>
      clear I0
      obtain⟨i,hi,rfl,hinv⟩ :=hrel
      by_cases hi1:i < n1
      · first
          | (exfalso;omega)
          | (obtain ⟨o0, hc0,ho0,hz0,hf0,hext,hst0⟩ :=hinv.out.cell i (by omega)
             have hxl:=HA.out i
             clear hc0 ho0 hz0 hf0 hst0
             generalize hxe:A.getD i 0 =x at hxl
             have Hxe:=hid hxe
             clear hxe
             have J0:=hid (MulInv.inner (x:=x) hinv.out)
             have F1:=(b2.out.ext hext).c0;have F2:=(b2.out.ext hext).c1;have F3:=(b2.out.ext hext).f0;have F4:=(b2.out.ext hext).f1
             clear hinv hext
             go_upto_region 7 with(fail)
             clear F1 F2 F3 F4
             go_loopw [7,8] (λc j wi =>∃k cc:Nat,k ≤ n2 ∧ cc < 4294967296 ∧ j =.int .i64 k ∧ c =.int .u64 cc ∧ Hid (MulInv W W.heap.size (n1 + n2) (i + n2) (4294967296 ^ (i + k) * cc) (pv A i * natVal B + 4294967296 ^ i * x * pv B k) wi)) (λ_ j _ =>n2 - (intOf j).toNat)
             case atStart =>exact⟨0,0,by omega,by omega,rfl,rfl,J0⟩
             case round =>
               clear J0
               obtain⟨k,cc,hk,hcc,rfl,rfl,hin⟩ :=hrel
               by_cases hk1:k < n2
               · first
                   | (exfalso;omega)
                   | (obtain⟨o,hco,hol,hz0,hfo,hexi,hsto⟩ :=hin.out.cell (i + k) (by omega)
                      have hcA:=(HW1.out.ext hexi).cell i hi1
                      have hcB:=(HW2.out.ext hexi).cell k hk1
                      rw[Hxe.out]at hcA
                      have hyl:=HB.out k
                      clear hz0 hin
                      generalize hye:B.getD k 0 =y at hcB hyl
                      have Hye:=hid hye
                      clear hye
                      obtain⟨hp1,hp2⟩ :=prod_lt x y o cc hxl hyl hol hcc
                      have Hst:=hid hsto
                      clear hsto
                      generalize hpe:x * y =p at hp1 hp2
                      have hpi:(x:Int) * (y:Int)=(p:Int) :=by rw[← hpe];simp
                      have Hpe:=hid hpe
                      clear hpe
                      have hq:(cc + (p + o)) / 4294967296 < 4294967296:=by omega
                      have Hnew:=hid (Hst.out ((cc + (p + o)) % 4294967296) (i + n2) (4294967296 ^ (i + (k + 1)) * ((cc + (p + o)) / 4294967296)) (pv A i * natVal B + 4294967296 ^ i * x * pv B (k + 1)) (by omega) (Nat.le_refl _) (Nat.le_refl _) (by omega)
                        (mul_next _ i k x y o cc (cc + (p + o)) _ _ B (by rw[Hpe.out];omega) Hye.out))
                      clear Hst
                      have F1:=(b2.out.ext hexi).c0;have F2:=(b2.out.ext hexi).c1;have F3:=(b2.out.ext hexi).f0;have F4:=(b2.out.ext hexi).f1
                      have G1:=(b3.out.ext hexi).c0;have G2:=(b3.out.ext hexi).c1;have G3:=(b3.out.ext hexi).f0;have G4:=(b3.out.ext hexi).f1
                      go_wp2_with fail
                      go_quiet (fail)
                      go_wp2_with fail
                      go_roundw
                      case rel =>exact⟨k + 1,_,by omega,hq,by go_num,by go_num,by rw[drewN_set];exact MulInv.drewN Hnew _⟩
                      case measure =>simp[intOf];omega)
               · obtain rfl:k =n2:=by omega
                 obtain⟨o,hco,hol,hz0,hfo,hexi,hsto⟩ :=hin.out.cell (i + k) (by omega)
                 have Hnew:=hid (hsto cc (i + 1 + k) 0 (pv A (i + 1) * natVal B) hcc (Nat.le_refl _) (by omega) (by omega) (mul_end _ i k x o cc A B (hz0 (Nat.le_refl _)) HlB.out Hxe.out))
                 clear hsto hz0 hin
                 have G1:=(b3.out.ext hexi).c0;have G2:=(b3.out.ext hexi).c1;have G3:=(b3.out.ext hexi).f0;have G4:=(b3.out.ext hexi).f1
                 go_wp2_with fail
                 go_roundw
                 case rel =>exact⟨i + 1,by omega,by go_num,Hnew⟩
                 case measure =>simp[intOf];omega)
      · obtain rfl:i =n1:=by omega
        have hinv2:=hinv.out
        rw[pv_all A i (Nat.le_of_eq HlA.out)]at hinv2
        obtain⟨o0,_,_,_,_,hext0,_⟩:∃o,o =0 ∧ o =0 ∧ o =0 ∧ o =0 ∧ Ext W wr ∧ True:=⟨0,rfl,rfl,rfl,rfl,by obtain⟨_,_,_,_,_,_,h⟩ :=hinv2;exact h,trivial⟩
        obtain⟨ys,hw,hv,hext⟩ :=hinv2.fin (by omega)
        have HM:=hid (rmade_c wr (s1 !=s2) _ _ _ ys (z1 * z2) hw (by rw[hv];exact HZ.out))
        clear hinv hinv2 hw hv
        have F1:=(b2.out.ext hext).c0;have F2:=(b2.out.ext hext).c1;have F3:=(b2.out.ext hext).f0;have F4:=(b2.out.ext hext).f1
        have G1:=(b3.out.ext hext).c0;have G2:=(b3.out.ext hext).c1;have G3:=(b3.out.ext hext).f0;have G4:=(b3.out.ext hext).f1
        go_wp2_with fail
        refine Calls.mono HM.out ?_
        rintro e w3 ⟨s3,a3,n3,c3,rfl,e3,h3⟩
        have B4:=b4.out.ext (hext.trans e3)
        have E3:=E.out.trans (hext.trans e3)
        clear F1 F2 F3 F4 G1 G2 G3 G4
        have H1:=B4.c0;have H2:=B4.c1;have H3:=B4.f0;have H4:=B4.f1
        go_wp2_with fail
        obtain⟨w4,hW,b5,p⟩ :=B4.put' s3 a3 n3 c3
        rw[← hW];clear hW
        have T0:=b5.c0
        have T1:=b5.c1
        exact bodyPost_ret (v:=.agg #[.bool s3,.slice a3 n3 c3]) (by simp[results,Tryz.results51,go_sem,T0,T1]) rfl ⟨_,_,_,_,rfl,E3.pt p (by omega),(h3.pt p).mono HK.out⟩
end Go.Proofs.YtenhciieboegbaaGreatDoor
