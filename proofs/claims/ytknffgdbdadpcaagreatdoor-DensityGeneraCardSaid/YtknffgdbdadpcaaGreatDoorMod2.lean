/-
 Package modular: of, mod, div, one, twos. (Printed by wip/gen/mod2.py.)
-/
import Derived.Test.YtknffgdbdadpcaaGreatDoorMod1
import Derived.Test.YtknffgdbdadpcaaGreatDoorRgn
namespace Go.Proofs.YtknffgdbdadpcaaGreatDoor
open Go Go.RowKit
open Go.Proofs.Tryz
set_option maxRecDepth 100000
set_option maxHeartbeats 4000000
def twsF:Nat→Nat→Nat→Nat×Nat
 | 0,a,c=>(a,c)
 | f+1,a,c=>if a%2=1 then (a,c) else twsF f (a/2) (c+1)
def tws (a:Nat):Nat×Nat:=twsF a a 0
def sg8 (r:Nat):Int:=if r=1∨r=7 then 1 else if r=3∨r=5 then -1 else 0
def krF:Nat→Nat→Nat→Int→Int
 | 0,_,n,k=>if n=1 then k else 0
 | f+1,a,n,k=>if a=0 then (if n=1 then k else 0) else
  let b:=(tws a).1
  let k:=if (tws a).2%2=1 then k*sg8 (n%8) else k
  krF f (n%b) b (if b%4=3∧n%4=3 then -k else k)
def kr (a:Int) (n:Nat):Int:=
 if a%2=0∧n%2=0 then 0 else
  let m:=(tws n).1
  let k:=if (tws n).2%2=1 then sg8 (a%8).toNat else 1
  krF m (a%m).toNat m k
theorem twsF_spec:∀ (f a c:Nat),0<a→a≤f→(twsF f a c).1%2=1∧0<(twsF f a c).1∧(twsF f a c).1≤a∧c≤(twsF f a c).2∧(twsF f a c).2≤c+a:=by
 intro f
 induction f with
 | zero=>intros;omega
 | succ f ih=>
  intro a c ha hf;unfold twsF;by_cases h:a%2=1
  ·rw [if_pos h];exact ⟨h,ha,Nat.le_refl _,Nat.le_refl _,by omega⟩
  ·rw [if_neg h];obtain ⟨h1,h2,h3,h4,h5⟩:=ih (a/2) (c+1) (by omega) (by omega);exact ⟨h1,h2,by omega,by omega,by omega⟩
theorem twsF_odd {f a c:Nat} (h:a%2=1):twsF (f+1) a c=(a,c):=by unfold twsF;rw [if_pos h]
theorem twsF_even {f a c:Nat} (h:a%2=0):twsF (f+1) a c=twsF f (a/2) (c+1):=by conv=>lhs;unfold twsF;rw [if_neg (by omega)]
theorem tws_spec {m:Nat} (h:0<m):(tws m).1%2=1∧0<(tws m).1∧(tws m).1≤m∧(tws m).2≤m:=by
 obtain ⟨h1,h2,h3,_,h5⟩:=twsF_spec m m 0 h (Nat.le_refl _);exact ⟨h1,h2,h3,by have:=h5;unfold tws;omega⟩
theorem sg8_le (r:Nat): -1≤sg8 r∧sg8 r≤1:=by unfold sg8;split <;> first | decide | (split <;> decide)
theorem krF_zero {f n:Nat} {k:Int} :krF f 0 n k=if n=1 then k else 0:=by cases f <;> simp [krF]
theorem krF_le:∀ (f a n:Nat) (k:Int),-1≤k∧k≤1→ -1≤krF f a n k∧krF f a n k≤1:=by
 have mul:∀ k s:Int,-1≤k∧k≤1→ -1≤s∧s≤1→ -1≤k*s∧k*s≤1:=by
  intro k s hk hs;obtain rfl | rfl | rfl:k= -1∨k=0∨k=1:=by omega
  ·omega
  ·omega
  ·omega
 intro f
 induction f with
 | zero=>intro a n k hk;unfold krF;split <;> omega
 | succ f ih=>
  intro a n k hk;unfold krF;by_cases h:a=0
  ·rw [if_pos h];split <;> omega
  ·rw [if_neg h];refine ih _ _ _ ?_
   have h1: -1≤(if (tws a).2%2=1 then k*sg8 (n%8) else k)∧(if (tws a).2%2=1 then k*sg8 (n%8) else k)≤1:=by
    split
    ·exact mul _ _ hk (sg8_le _)
    ·exact hk
   split <;> omega
def isD (q:Nat):Bool:=q%4==0||q%4==3
def cdB (n:Nat):Nat→Nat
 | 0=>1
 | K+1=>if 1≤K∧n%((K+1)*(K+1))=0∧isD (n/((K+1)*(K+1)))=true then K+1 else cdB n K
theorem cdB_pos (n:Nat):∀ K,1≤cdB n K∧cdB n K≤K+1
 | 0=>by simp [cdB]
 | K+1=>by
  have:=cdB_pos n K;unfold cdB
  split <;> omega
theorem sqrt_uniq {n K L:Nat} (h1:K*K≤n) (h2:n<(K+1)*(K+1)) (h3:L*L≤n) (h4:n<(L+1)*(L+1)):K=L:=by
 rcases Nat.lt_trichotomy K L with h | h | h
 ·have:=Nat.mul_le_mul (show K+1≤L from h) (show K+1≤L from h);omega
 ·exact h
 ·have:=Nat.mul_le_mul (show L+1≤K from h) (show L+1≤K from h);omega
def unsE (f:Nat) (n:Int):Int:=if n≤0 then 1 else if 1048576<n then 2 else if Int.gcd f n=1 then 0 else 1
theorem mof_f (w:World) (z:Int) (h1: -9223372036854775808≤z) (h2:z≤9223372036854775807):Calls prog 152 #[.int .i64 z] w (Ret w (IsI 2 z)):=by
 have HZ:=hid (And.intro h1 h2);clear h1 h2;obtain ⟨W,hW,S⟩:∃ W,W=w.alloc (.cells #[.bool false,.slice none 0 0] 33)∧Sto w W [((w.heap.size,0),IsI 0 0)]:=⟨_,rfl,((Sto.start w).new1 (w.heap.size) (by simp) false none 0 0 33 (IsI 0 0) (IsI.gstb _ _) (IsI.nil _ _))⟩;go_enter func152,ntmps152;go_upto_region 1 with (fail);rw [← hW];clear hW;refine rgs 2 [some 3,some 4] [iV z,IsI 2 z] [] ?_ ?_
 ·refine Rc (mv (Od.lit 0)) ?_;refine Rc (cl1 (en func41) (Od.lc (Φ:=iV z) 0 3) (fun x0 w' hE d0=>by { obtain rfl:x0= .int .i64 z:=d0;exact Of_f _ z HZ.out.1 HZ.out.2})) ?_;exact rn0
 intro v W1 e1 hΦ _;replace S:=S.mono e1;have h4:=hΦ 1 dcx;simp only [lxE,Nat.reduceAdd];clear hΦ e1
 try simp only [dxE]
 (with_reducible refine stL ?_ (by rfl));intro KK hKK;refine stI S 0 (w.heap.size) 0 h4 st_Int (fun W2 S2 G2=>hKK _ _ ?_) rfl
 replace S:=S2;clear S2 G2 hKK KK h4;simp only [u0x] at S;refine wpList_nil ?_;go_wp2_with fail;obtain ⟨s90x,a90x,n90x,c90x,b90x,h90x⟩:=S.at 0 (w.heap.size) 0 (IsI 2 z) rfl;have L90xa:World.cell? W2 ⟨w.heap.size,0,none⟩=some (.bool s90x):=b90x.c0;have L90xb:World.cell? W2 ⟨w.heap.size,1,none⟩=some (.slice a90x n90x c90x):=b90x.c1;exact bodyPost_ret (v:= .agg #[.bool s90x,.slice a90x n90x c90x]) (by simp [results,results152,go_sem,L90xa,L90xb]) rfl (⟨_,rfl,S.ext,h90x⟩)
theorem mmod_f {k1 k2:Nat} {z1 z2:Int} {x y:Value} {w:World} (hx:IsI k1 z1 x w) (hy:IsI k2 z2 y w) (l1:k1≤33554432) (l2:k2≤33554432) (hz:z2≠0):
  Calls prog 117 #[x,y] w (Ret w (IsI k2 (z1%z2))):=by
 have HZ:=hid hz;clear hz;obtain ⟨s1,a1,n1,c1,rfl,h1⟩:=hx;have h1:IsI _ _ _ w:=⟨_,_,_,_,rfl,h1⟩;obtain ⟨s2,a2,n2,c2,rfl,h2⟩:=hy;have h2:IsI _ _ _ w:=⟨_,_,_,_,rfl,h2⟩;obtain ⟨W,hW,S⟩:∃ W,W=((w.alloc (.cells #[.bool s1,.slice a1 n1 c1] 33)).alloc (.cells #[.bool s2,.slice a2 n2 c2] 33)).alloc (.cells #[.bool false,.slice none 0 0] 33)∧Sto w W [((w.heap.size+1+1,0),IsI 0 0),((w.heap.size+1,0),IsI k2 z2),((w.heap.size,0),IsI k1 z1)]:=⟨_,rfl,((((Sto.start w).new1 (w.heap.size) (by simp) s1 a1 n1 c1 33 (IsI k1 z1) (IsI.gstb _ _) (h1)).new1 (w.heap.size+1) (by simp) s2 a2 n2 c2 33 (IsI k2 z2) (IsI.gstb _ _) (h2.ext ((Ext.refl _).alloc _))).new1 (w.heap.size+1+1) (by simp) false none 0 0 33 (IsI 0 0) (IsI.gstb _ _) (IsI.nil _ _))⟩;clear h1 h2;go_enter func117,ntmps117;go_upto_region 1 with (fail);rw [← hW];clear hW;have hl:=hid S.lt;have hw:=S.ext.size;refine rgs 9 [some 9,some 10,some 11,some 8,some 12,some 13,some 14,some 5,some 6] [IsI k1 z1,IsI k2 z2,IsT3 (IsI k1 (z1/z2)) (IsI k2 (z1%z2)) (iV 0),IsT3 (IsI k1 (z1/z2)) (IsI k2 (z1%z2)) (iV 0),IsI k1 (z1/z2),IsI k2 (z1%z2),iV 0,IsBo W 1,IsBo W 1] [7,8] ?_ ?_
 ·refine Rc (ldI S 2 (w.heap.size) 0 (Od.lit 2) ld_Int) ?_;refine Rc (ldI S 1 (w.heap.size+1) 0 (Od.lit 3) ld_Int) ?_;refine Rc (cl2 (en func111) (Od.lc (Φ:=IsI k1 z1) 0 9) (Od.lc (Φ:=IsI k2 z2) 1 10) (fun x0 x1 w' hE d0 d1=>DivMod_f d0 d1 (by omega) (by omega) HZ.out)) ?_;refine Rc (mv (Od.lc 2 11)) ?_;refine Rc (ex (Od.loc 3 8) t30) ?_;refine Rc (ex (Od.loc 3 8) t31) ?_;refine Rc (ex (Od.loc 3 8) t32) ?_;refine Rc (al al_Int) ?_;refine Rc (al al_Int) ?_;exact rn0
 intro v W1 e1 hΦ hne;replace S:=S.mono e1;have h12:=hΦ 4 dcx;have h13:=hΦ 5 dcx;have v6:v 6= .int .i64 0:=hΦ 6 dcx;obtain ⟨g5,v7,q2,b1,_⟩:=(hΦ 7 dcx:IsBo W 1 (v 7) W1);replace S:=S.addN 1 (ApartO.old hl.out q2) (Nat.le_trans hw q2) b1;obtain ⟨g6,v8,q4,b3,_⟩:=(hΦ 8 dcx:IsBo W 1 (v 8) W1);replace S:=S.addN 1 (ApartO.cons (fun h=>hne 7 8 dcx dcx dcx dcx dcx (by rw [v7,v8,h])) (ApartO.old hl.out q4)) (Nat.le_trans hw q4) b3;simp only [newF,List.cons_append,List.nil_append] at S;simp only [lxE,Nat.reduceAdd];rw [v6,v7,v8];clear b1 b3 hl hw hne v6 v7 v8 hΦ e1
 try simp only [dxE]
 (with_reducible refine stL ?_ (by rfl));intro KK hKK;refine stI S 1 (g5) 0 h12 st_Int (fun W2 S2 G2=>hKK _ _ ?_) rfl
 replace h13:=(IsI.gstb _ _) _ _ _ G2 h13;replace S:=S2;clear S2 G2 hKK KK h12;simp only [u0x,u1x] at S
 try simp only [dxE]
 (with_reducible refine stL ?_ (by rfl));intro KK hKK;refine stI S 0 (g6) 0 h13 st_Int (fun W3 S2 G2=>hKK _ _ ?_) rfl
 replace S:=S2;clear S2 G2 hKK KK h13;simp only [u0x] at S;refine wpList_step fun K hK=> ?_;go_simp;refine hK _ _ ?_;clear hK K
 refine wpList_nil ?_;go_upto_region 2 with (fail);refine rgs 1 [some 15] [IsI k2 (z1%z2)] [] ?_ ?_
 ·refine Rc (ldI S 0 (g6) 0 (Od.lit 6) ld_Int) ?_;exact rn0
 intro v W4 e1 hΦ _;replace S:=S.mono e1;have h15:=hΦ 0 dcx;simp only [lxE];clear hΦ e1
 try simp only [dxE]
 (with_reducible refine stL ?_ (by rfl));intro KK hKK;refine stI S 2 (w.heap.size+1+1) 0 h15 st_Int (fun W5 S2 G2=>hKK _ _ ?_) rfl
 replace S:=S2;clear S2 G2 hKK KK h15;simp only [u0x,u1x] at S;refine wpList_nil ?_;go_wp2_with fail;obtain ⟨s90x,a90x,n90x,c90x,b90x,h90x⟩:=S.at 2 (w.heap.size+1+1) 0 (IsI k2 (z1%z2)) rfl;have L90xa:World.cell? W5 ⟨w.heap.size+1+1,0,none⟩=some (.bool s90x):=b90x.c0;have L90xb:World.cell? W5 ⟨w.heap.size+1+1,1,none⟩=some (.slice a90x n90x c90x):=b90x.c1;exact bodyPost_ret (v:= .agg #[.bool s90x,.slice a90x n90x c90x]) (by simp [results,results117,go_sem,L90xa,L90xb]) rfl (⟨_,rfl,S.ext,h90x⟩)
theorem mdiv_f {k1 k2:Nat} {z1 z2:Int} {x y:Value} {w:World} (hx:IsI k1 z1 x w) (hy:IsI k2 z2 y w) (l1:k1≤33554432) (l2:k2≤33554432) (hz:z2≠0):
  Calls prog 153 #[x,y] w (Ret w (IsI k1 (z1/z2))):=by
 have HZ:=hid hz;clear hz;obtain ⟨s1,a1,n1,c1,rfl,h1⟩:=hx;have h1:IsI _ _ _ w:=⟨_,_,_,_,rfl,h1⟩;obtain ⟨s2,a2,n2,c2,rfl,h2⟩:=hy;have h2:IsI _ _ _ w:=⟨_,_,_,_,rfl,h2⟩;obtain ⟨W,hW,S⟩:∃ W,W=((w.alloc (.cells #[.bool s1,.slice a1 n1 c1] 33)).alloc (.cells #[.bool s2,.slice a2 n2 c2] 33)).alloc (.cells #[.bool false,.slice none 0 0] 33)∧Sto w W [((w.heap.size+1+1,0),IsI 0 0),((w.heap.size+1,0),IsI k2 z2),((w.heap.size,0),IsI k1 z1)]:=⟨_,rfl,((((Sto.start w).new1 (w.heap.size) (by simp) s1 a1 n1 c1 33 (IsI k1 z1) (IsI.gstb _ _) (h1)).new1 (w.heap.size+1) (by simp) s2 a2 n2 c2 33 (IsI k2 z2) (IsI.gstb _ _) (h2.ext ((Ext.refl _).alloc _))).new1 (w.heap.size+1+1) (by simp) false none 0 0 33 (IsI 0 0) (IsI.gstb _ _) (IsI.nil _ _))⟩;clear h1 h2;go_enter func153,ntmps153;go_upto_region 1 with (fail);rw [← hW];clear hW;have hl:=hid S.lt;have hw:=S.ext.size;refine rgs 9 [some 9,some 10,some 11,some 8,some 12,some 13,some 14,some 5,some 6] [IsI k1 z1,IsI k2 z2,IsT3 (IsI k1 (z1/z2)) (IsI k2 (z1%z2)) (iV 0),IsT3 (IsI k1 (z1/z2)) (IsI k2 (z1%z2)) (iV 0),IsI k1 (z1/z2),IsI k2 (z1%z2),iV 0,IsBo W 1,IsBo W 1] [7,8] ?_ ?_
 ·refine Rc (ldI S 2 (w.heap.size) 0 (Od.lit 2) ld_Int) ?_;refine Rc (ldI S 1 (w.heap.size+1) 0 (Od.lit 3) ld_Int) ?_;refine Rc (cl2 (en func111) (Od.lc (Φ:=IsI k1 z1) 0 9) (Od.lc (Φ:=IsI k2 z2) 1 10) (fun x0 x1 w' hE d0 d1=>DivMod_f d0 d1 (by omega) (by omega) HZ.out)) ?_;refine Rc (mv (Od.lc 2 11)) ?_;refine Rc (ex (Od.loc 3 8) t30) ?_;refine Rc (ex (Od.loc 3 8) t31) ?_;refine Rc (ex (Od.loc 3 8) t32) ?_;refine Rc (al al_Int) ?_;refine Rc (al al_Int) ?_;exact rn0
 intro v W1 e1 hΦ hne;replace S:=S.mono e1;have h12:=hΦ 4 dcx;have h13:=hΦ 5 dcx;have v6:v 6= .int .i64 0:=hΦ 6 dcx;obtain ⟨g5,v7,q2,b1,_⟩:=(hΦ 7 dcx:IsBo W 1 (v 7) W1);replace S:=S.addN 1 (ApartO.old hl.out q2) (Nat.le_trans hw q2) b1;obtain ⟨g6,v8,q4,b3,_⟩:=(hΦ 8 dcx:IsBo W 1 (v 8) W1);replace S:=S.addN 1 (ApartO.cons (fun h=>hne 7 8 dcx dcx dcx dcx dcx (by rw [v7,v8,h])) (ApartO.old hl.out q4)) (Nat.le_trans hw q4) b3;simp only [newF,List.cons_append,List.nil_append] at S;simp only [lxE,Nat.reduceAdd];rw [v6,v7,v8];clear b1 b3 hl hw hne v6 v7 v8 hΦ e1
 try simp only [dxE]
 (with_reducible refine stL ?_ (by rfl));intro KK hKK;refine stI S 1 (g5) 0 h12 st_Int (fun W2 S2 G2=>hKK _ _ ?_) rfl
 replace h13:=(IsI.gstb _ _) _ _ _ G2 h13;replace S:=S2;clear S2 G2 hKK KK h12;simp only [u0x,u1x] at S
 try simp only [dxE]
 (with_reducible refine stL ?_ (by rfl));intro KK hKK;refine stI S 0 (g6) 0 h13 st_Int (fun W3 S2 G2=>hKK _ _ ?_) rfl
 replace S:=S2;clear S2 G2 hKK KK h13;simp only [u0x] at S;refine wpList_step fun K hK=> ?_;go_simp;refine hK _ _ ?_;clear hK K
 refine wpList_nil ?_;go_upto_region 2 with (fail);refine rgs 1 [some 15] [IsI k1 (z1/z2)] [] ?_ ?_
 ·refine Rc (ldI S 1 (g5) 0 (Od.lit 5) ld_Int) ?_;exact rn0
 intro v W4 e1 hΦ _;replace S:=S.mono e1;have h15:=hΦ 0 dcx;simp only [lxE];clear hΦ e1
 try simp only [dxE]
 (with_reducible refine stL ?_ (by rfl));intro KK hKK;refine stI S 2 (w.heap.size+1+1) 0 h15 st_Int (fun W5 S2 G2=>hKK _ _ ?_) rfl
 replace S:=S2;clear S2 G2 hKK KK h15;simp only [u0x,u1x] at S;refine wpList_nil ?_;go_wp2_with fail;obtain ⟨s90x,a90x,n90x,c90x,b90x,h90x⟩:=S.at 2 (w.heap.size+1+1) 0 (IsI k1 (z1/z2)) rfl;have L90xa:World.cell? W5 ⟨w.heap.size+1+1,0,none⟩=some (.bool s90x):=b90x.c0;have L90xb:World.cell? W5 ⟨w.heap.size+1+1,1,none⟩=some (.slice a90x n90x c90x):=b90x.c1;exact bodyPost_ret (v:= .agg #[.bool s90x,.slice a90x n90x c90x]) (by simp [results,results153,go_sem,L90xa,L90xb]) rfl (⟨_,rfl,S.ext,h90x⟩)
theorem mone_f {k1:Nat} {z1:Int} {x:Value} {w:World} {q:Bool} (hx:IsI k1 z1 x w) (l1:k1≤33554432) (hq:decide (z1=1)=q):Calls prog 112 #[x] w (Ret w (IsV (.bool q))):=by
 obtain ⟨cc,hc⟩:∃ c,cmpI z1 1=c:=⟨_,rfl⟩;have HC:=hid hc
 have HQ:=hid (show (cc==0)=q by
  rw [← hq,← hc,Bool.eq_iff_iff,beq_iff_eq,decide_eq_true_iff];unfold cmpI
  split
  ·omega
  ·split <;> omega)
 clear hq hc;obtain ⟨s1,a1,n1,c1,rfl,h1⟩:=hx;have h1:IsI _ _ _ w:=⟨_,_,_,_,rfl,h1⟩;obtain ⟨W,hW,S⟩:∃ W,W=w.alloc (.cells #[.bool s1,.slice a1 n1 c1] 33)∧Sto w W [((w.heap.size,0),IsI k1 z1)]:=⟨_,rfl,((Sto.start w).new1 (w.heap.size) (by simp) s1 a1 n1 c1 33 (IsI k1 z1) (IsI.gstb _ _) (h1))⟩;clear h1;go_enter func112,ntmps112;go_upto_region 1 with (fail);rw [← hW];clear hW;refine rg 5 [some 3,some 4,some 5,some 6,some 2] [IsI k1 z1,IsI 2 1,iV cc,IsV (.bool q),IsV (.bool q)] [] 0 ?_ ?_
 ·refine Rc (ldI S 0 (w.heap.size) 0 (Od.lit 1) ld_Int) ?_;refine Rc (cl1 (en func152) Od.con (fun x0 w' hE d0=>by { obtain rfl:x0= .int .i64 1:=d0;exact mof_f _ 1 dcx dcx})) ?_;refine Rc (cl2 (en func52) (Od.lc (Φ:=IsI k1 z1) 0 3) (Od.lc (Φ:=IsI 2 1) 1 4) (fun x0 x1 w' hE d0 d1=>Calls.mono (Cmp_f d0 d1 (by omega) dcx) fun _ _ h=>h.int HC.out)) ?_;refine Rc (bn (r:= .bool q) (Od.loc 2 5) Od.con (hr:=fun w=>by have hx9:=HQ.out;go_simp)) ?_;refine Rc (mv (Od.lc 3 6)) ?_;exact rn0
 intro v W1 e1 hΦ _;replace S:=S.mono e1;have v4:v 4= .bool q:=hΦ 4 dcx;simp only [lxE,Nat.reduceAdd];rw [v4];clear v4 hΦ e1;refine wpAny_done (by kernel_rfl) ?_ _;go_wp2_with fail;exact bodyPost_ret (v:= .bool q) (by simp [results,results112,go_sem]) rfl (⟨_,rfl,S.ext,rfl⟩)
theorem RetB {w w':World} {vs:Ending} {b b':Bool} (h:Ret w (IsV (.bool b)) vs w') (e:b=b'):Ret w (IsV (.bool b')) vs w':=e▸h
theorem twos_f {k1 z:Nat} {x:Value} {w:World} (hx:IsI k1 (z:Int) x w) (l1:k1≤33554432) (hz:0<z∧z≤4611686018427387904):Calls prog 115 #[x] w (Ret w (IsT2 (IsI k1 (((tws z).1:Nat):Int)) (iV (((tws z).2:Nat):Int)))):=by
 have HZ:=hid hz;have HK:=hid l1;clear hz l1;obtain ⟨s1,a1,n1,c1,rfl,h1⟩:=hx;have h1:IsI _ _ _ w:=⟨_,_,_,_,rfl,h1⟩;obtain ⟨W,hW,S⟩:∃ W,W=(w.alloc (.cells #[.bool s1,.slice a1 n1 c1] 33)).alloc (.cells #[.bool false,.slice none 0 0] 33)∧Sto w W [((w.heap.size+1,0),IsI 0 0),((w.heap.size,0),IsI k1 ((z:Int)))]:=⟨_,rfl,(((Sto.start w).new1 (w.heap.size) (by simp) s1 a1 n1 c1 33 (IsI k1 ((z:Int))) (IsI.gstb _ _) (h1)).new1 (w.heap.size+1) (by simp) false none 0 0 33 (IsI 0 0) (IsI.gstb _ _) (IsI.nil _ _))⟩;clear h1;go_enter func115,ntmps115;go_upto_region 1 with (fail);rw [← hW];clear hW;refine rgs 1 [some 4] [iV 0] [] ?_ ?_
 ·refine Rc (mv Od.con) ?_;exact rn0
 intro v W1 e1 hΦ _;replace S:=S.mono e1;have v0:v 0= .int .i64 0:=hΦ 0 dcx;simp only [lxE];rw [v0];clear v0 hΦ e1;refine wpList_nil ?_;go_wp2_with fail;have S0:=hid S;clear S
 go_loopg [4] z (fun gk v4 wr=> ∃ a c f:Nat,v4= .int .i64 (c:Int)∧a=gk∧0<a∧a≤f∧c+a≤z∧twsF f a c=tws z∧Hid (Sto w wr [((w.heap.size+1,0),IsI 0 0),((w.heap.size,0),IsI k1 ((a:Int)))]))
 case atStart=>exact ⟨z,0,z,rfl,rfl,HZ.out.1,Nat.le_refl _,by omega,rfl,S0⟩
 case round=>
  clear S0;obtain ⟨a,c,f,rfl,hg,ha,hf,hca,ht,S⟩:=hrel;have S:=S.out;have HZ1:=HZ.out;obtain ⟨f,rfl⟩:∃ j,f=j+1:=⟨f-1,by omega⟩;rcases Nat.mod_two_eq_zero_or_one a with h2 | h2
  ·skip;have HODD:=hid (show decide ((a:Int)%2=1)=false from decide_eq_false (by omega));have HHV:=hid (show (a:Int)/2=(((a/2:Nat):Nat):Int) by omega);have HADD:=hid (show IntKind.i64.wrap ((c:Int)+1)=(c:Int)+1 by simp only [IntKind.wrap_i64];omega);rw [twsF_even h2] at ht;have HHT:=hid ht;have HHN:=hid (And.intro hg (And.intro ha (And.intro hf (And.intro hca h2))));clear ht hg ha hf hca h2 HZ1;go_upto_region 2 with (fail);refine rgs 3 [some 5,some 6,some 7] [IsI k1 ((a:Int)),IsV (.bool false),IsV (.bool true)] [] ?_ ?_
   ·refine Rc (ldI S 1 (w.heap.size) 0 (Od.lit 1) ld_Int) ?_;refine Rc (cl1 (en func113) (Od.lc (Φ:=IsI k1 ((a:Int))) 0 5) (fun x0 w' hE d0=>Calls.mono (odd_f d0) fun _ _ h=>RetB h HODD.out)) ?_;refine Rc (nt (Od.loc 1 6)) ?_;exact rn0
   intro v W2 e1 hΦ _;replace S:=S.mono e1;have v2:v 2= .bool true:=hΦ 2 dcx;simp only [lxE,Nat.reduceAdd];rw [v2];clear v2 hΦ e1;refine wpList_nil ?_;go_upto_region 3 with (fail);refine rg 3 [some 8,some 9,some 10] [IsI k1 ((a:Int)),IsI 2 2,IsI k1 ((((a/2:Nat):Nat):Int))] [] 1 ?_ ?_
   ·refine Rc (ldI S 1 (w.heap.size) 0 (Od.lit 1) ld_Int) ?_;refine Rc (cl1 (en func152) Od.con (fun x0 w' hE d0=>by { obtain rfl:x0= .int .i64 2:=d0;exact mof_f _ 2 dcx dcx})) ?_;refine Rc (cl2 (en func153) (Od.lc (Φ:=IsI k1 ((a:Int))) 0 8) (Od.lc (Φ:=IsI 2 2) 1 9) (fun x0 x1 w' hE d0 d1=>Calls.mono (mdiv_f d0 d1 HK.out dcx dcx) fun _ _ h=>h.eqz HHV.out)) ?_;exact rn0
   intro v W3 e1 hΦ _;replace S:=S.mono e1;have h10:=hΦ 2 dcx;simp only [lxE,Nat.reduceAdd];clear hΦ e1;refine stA 3 (h:=fun KK hKK=>stI S 1 (w.heap.size) 0 h10 st_Int (fun W4 S2 G2=>hKK _ _ ?_) rfl);replace S:=S2;clear S2 G2 hKK KK h10;simp only [u0x,u1x] at S;refine wpAny_done (by kernel_rfl) ?_ _;have hx9:=HADD.out;have S':=hid S;clear S;go_wp2_with fail
   go_roundg (a/2)
   case measure=>have:=HHN.out;omega
   case rel=>exact ⟨a/2,c+1,f,by rw [Int.natCast_add];rfl,rfl,by have:=HHN.out;omega,by have:=HHN.out;omega,by have:=HHN.out;omega,HHT.out,S'⟩
  ·skip;have HODD:=hid (show decide ((a:Int)%2=1)=true from decide_eq_true (by omega));rw [twsF_odd h2] at ht;have HE:=hid ht;clear ht hg ha hf hca h2 HZ1;go_upto_region 2 with (fail);refine rgs 3 [some 5,some 6,some 7] [IsI k1 ((a:Int)),IsV (.bool true),IsV (.bool false)] [] ?_ ?_
   ·refine Rc (ldI S 1 (w.heap.size) 0 (Od.lit 1) ld_Int) ?_;refine Rc (cl1 (en func113) (Od.lc (Φ:=IsI k1 ((a:Int))) 0 5) (fun x0 w' hE d0=>Calls.mono (odd_f d0) fun _ _ h=>RetB h HODD.out)) ?_;refine Rc (nt (Od.loc 1 6)) ?_;exact rn0
   intro v W5 e1 hΦ _;replace S:=S.mono e1;have v2:v 2= .bool false:=hΦ 2 dcx;simp only [lxE,Nat.reduceAdd];rw [v2];clear v2 hΦ e1;refine wpList_nil ?_;go_upto_region 5 with (fail);refine rgs 2 [some 13,some 14] [IsI k1 ((a:Int)),iV (c:Int)] [] ?_ ?_
   ·refine Rc (ldI S 1 (w.heap.size) 0 (Od.lit 1) ld_Int) ?_;refine Rc (mv (Od.lit 4)) ?_;exact rn0
   intro v W6 e1 hΦ _;replace S:=S.mono e1;have h13:=hΦ 0 dcx;have v1:v 1= .int .i64 (c:Int):=hΦ 1 dcx;simp only [lxE,Nat.reduceAdd];rw [v1];clear v1 hΦ e1
   try simp only [dxE]
   (with_reducible refine stL ?_ (by rfl));intro KK hKK;refine stI S 0 (w.heap.size+1) 0 h13 st_Int (fun W7 S2 G2=>hKK _ _ ?_) rfl
   replace S:=S2;clear S2 G2 hKK KK h13;simp only [u0x] at S;refine wpList_step fun K hK=> ?_;go_simp;refine hK _ _ ?_;clear hK K
   refine wpList_nil ?_;go_wp2_with fail;obtain ⟨s90x,a90x,n90x,c90x,b90x,h90x⟩:=S.at 0 (w.heap.size+1) 0 (IsI k1 ((a:Int))) rfl;have L90xa:World.cell? W7 ⟨w.heap.size+1,0,none⟩=some (.bool s90x):=b90x.c0;have L90xb:World.cell? W7 ⟨w.heap.size+1,1,none⟩=some (.slice a90x n90x c90x):=b90x.c1;exact bodyPost_ret (v:= .tuple #[.agg #[.bool s90x,.slice a90x n90x c90x],.int .i64 (c:Int)]) (by simp [results,results115,go_sem,L90xa,L90xb]) rfl (⟨_,rfl,S.ext,by rw [← HE.out];exact ⟨_,_,rfl,h90x,rfl⟩⟩)
end Go.Proofs.YtknffgdbdadpcaaGreatDoor
