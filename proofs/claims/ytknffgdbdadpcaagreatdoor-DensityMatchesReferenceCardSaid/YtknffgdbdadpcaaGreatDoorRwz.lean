/-
 What both sides answer to an integer that is no discriminant, or too far below. (Printed by wip/gen/den37.py.)
 Package density and its reference at what they refuse. (Printed by wip/gen/den38.py.)
 The empty row that a program writes as a literal: it stands in memory, and grows by append.
-/
import Derived.Test.YtknffgdbdadpcaaGreatDoorDen36
import Derived.Test.YtknffgdbdadpcaaGreatDoorDen16
import Derived.Test.YtknffgdbdadpcaaGreatDoorDen7
import Derived.Test.YtknffgdbdadpcaaGreatDoorDen12
import Derived.Test.YtknffgdbdadpcaaGreatDoorRwg
namespace Go.Proofs.YtknffgdbdadpcaaGreatDoor
open Go Go.RowKit
open Go.Proofs.Tryz
theorem ze0{P:Prop}(h:P:=by exact cl2 (en func94) (qA (fP:=IsI k1 z) 4 7) (qA (fP:=IsI 2 4) 5 8) (λx0 x1 w' hE d0 d1=>zC (RMod_f d0 d1 zl dcx dcx) λ_ _ h=>h.eqz HR.out)):P:=h
theorem zfd{P:Prop}(h:P:=by have hh:=DivMod_f d0 d1 zl dcx dcx;rw[HQR.out,HR.out]at hh;exact hh):P:=h
theorem zai{P:Prop}(h:P:=by exact cl1 (en func65) (qA (fP:=IsI k1 z) 0 3) (λx0 w' hE d0=>zC (xN d0) λ_ _ h=>h.int HSG.out)):P:=h
theorem zbc{P:Prop}(h:P:=by exact bn (r:=.bool true) (qC 0 14) qE (hr:=λw=>by have hx9:=HUB.out;go_simp)):P:=h
theorem zc0{P:Prop}(h:P:=by exact mv (qA 2 13)):P:=h
set_option maxRecDepth 100000
set_option maxHeartbeats 8000000
def dE(z:Int):Int:=if 0<=z\/1<z%4 then 5 else if z< -4194304 then 2 else 0
theorem tRwz_1{P:Prop}(h:P:=by
  intro v W1 e1 hH _;replace S:=S.mono e1;simp only[lxE,Nat.reduceAdd];rw[show v 10=.bool true from hH 10 dcx];clear hH e1;refine zO za ?_ _;go_upto_region 2 with fail;refine rgt S 1 [some 2] [iV 5] ?_ ?_
  ·refine Rc zaf ?_;exact rn0
  intro v W2 S hH;simp only[lxE];rw[show v 0=.int .i64 5 from hH 0 dcx];clear hH;go_wp2_with fail;exact zD (v:=.int .i64 5) (by simp[results,results63,go_sem]) rfl (⟨_,rfl,S.ext,rfl⟩)
  ):P:=h
theorem rref_p{k1:Nat}{z sg:Int}{x:Value}{w:World}(hx:IsI k1 z x w)(HK:Hid (k1<=131072))(HSG:Hid (z.sign=sg))(HSB:Hid (0<=sg)):Calls prog 63 #[x] w (Ret w (iV 5)):=by
 obtain⟨s1,a1,n1,c1,W,rfl,hW,S⟩:=en1 hx;go_enter func63,ntmps63;go_upto_region 1 with fail;rw[<-hW];clear hW;refine rg 11 [some 3,some 4,some 5,some 6,some 7,some 8,some 9,some 10,some 11,some 12,some 13] [IsI k1 z,iV sg,IsV (.bool true),IsV (.bool true),IsV (undef),IsV (undef),IsV (undef),IsV (undef),IsV (undef),IsV (undef),IsV (.bool true)] [] 0 ?_ ?_
 ·refine Rc zj ?_;refine Rc zai ?_;refine Rc (bn (r:=.bool true) (qC 1 4) qE (hr:=λw=>by have hx9:=HSB.out;go_simp)) ?_;refine Rc (mv (qA 2 5)) ?_;refine RcN 3 6 true ?_;refine RcN 3 6 true ?_;refine RcN 3 6 true ?_;refine RcN 3 6 true ?_;refine RcN 3 6 true ?_;refine RcN 3 6 true ?_;refine Rc (pk (qC 3 6) qE) ?_;exact rn0
 exact tRwz_1
theorem rref_m{k1:Nat}{z sg q r cq:Int}{x:Value}{w:World}(hx:IsI k1 z x w)(HK:Hid (k1<=131072))(HSG:Hid (z.sign=sg))(HSB:Hid (sg<0))(HQR:Hid (z/4=q))(HR:Hid (z%4=r))(HC1:Hid (qK r 1=cq))(HC1B:Hid (0<cq)):Calls prog 63 #[x] w (Ret w (iV 5)):=by
 obtain⟨s1,a1,n1,c1,W,rfl,hW,S⟩:=en1 hx;go_enter func63,ntmps63;go_upto_region 1 with fail;rw[<-hW];clear hW;refine rg 11 [some 3,some 4,some 5,some 6,some 7,some 8,some 9,some 10,some 11,some 12,some 13] [IsI k1 z,iV sg,IsV (.bool false),IsV (.bool false),IsI k1 z,IsI 2 4,IsI 2 r,IsI 2 1,iV cq,IsV (.bool true),IsV (.bool true)] [] 0 ?_ ?_
 ·refine Rc zj ?_;refine Rc zai ?_;refine Rc (bn (r:=.bool false) (qC 1 4) qE (hr:=λw=>by have hx9:=HSB.out;go_simp)) ?_;refine Rc (mv (qA 2 5)) ?_;refine RcG 3 6 false zj ?_;refine RcG 3 6 false yb ?_;refine RcG 3 6 false ze0 ?_;refine RcG 3 6 false zn ?_;refine RcG 3 6 false yh ?_;refine RcG 3 6 false (bn (r:=.bool true) (qC 8 11) qE (hr:=λw=>by have hx9:=HC1B.out;go_simp)) ?_;refine Rc (pk (qC 3 6) (qA 9 12)) ?_;exact rn0
 exact tRwz_1
theorem rref_b{k1:Nat}{z sg q r cq cr:Int}{x:Value}{w:World}(hx:IsI k1 z x w)(HK:Hid (k1<=131072))(HSG:Hid (z.sign=sg))(HSB:Hid (sg<0))(HQR:Hid (z/4=q))(HR:Hid (z%4=r))(HC1:Hid (qK r 1=cq))(HC1B:Hid (¬0<cq))(HC2:Hid (qK z (-4194304)=cr))(HC2B:Hid (cr<0)):Calls prog 63 #[x] w (Ret w (iV 2)):=by
 obtain⟨s1,a1,n1,c1,W,rfl,hW,S⟩:=en1 hx;go_enter func63,ntmps63;go_upto_region 1 with fail;rw[<-hW];clear hW;refine rg 11 [some 3,some 4,some 5,some 6,some 7,some 8,some 9,some 10,some 11,some 12,some 13] [IsI k1 z,iV sg,IsV (.bool false),IsV (.bool false),IsI k1 z,IsI 2 4,IsI 2 r,IsI 2 1,iV cq,IsV (.bool false),IsV (.bool false)] [] 0 ?_ ?_
 ·refine Rc zj ?_;refine Rc zai ?_;refine Rc (bn (r:=.bool false) (qC 1 4) qE (hr:=λw=>by have hx9:=HSB.out;go_simp)) ?_;refine Rc (mv (qA 2 5)) ?_;refine RcG 3 6 false zj ?_;refine RcG 3 6 false yb ?_;refine RcG 3 6 false ze0 ?_;refine RcG 3 6 false zn ?_;refine RcG 3 6 false yh ?_;refine RcG 3 6 false (bn (r:=.bool false) (qC 8 11) qE (hr:=λw=>by have hx9:=HC1B.out;go_simp)) ?_;refine Rc (pk (qC 3 6) (qA 9 12)) ?_;exact rn0
 intro v W1 e1 hH _;replace S:=S.mono e1;simp only[lxE,Nat.reduceAdd];rw[show v 10=.bool false from hH 10 dcx];clear hH e1;refine zO za ?_ _;go_upto_region 3 with fail;refine rg 4 [some 14,some 15,some 16,some 17] [IsI k1 z,IsI 2 ((-4194304)),iV cr,IsV (.bool true)] [] 0 ?_ ?_
 ·refine Rc zj ?_;refine Rc zbv ?_;refine Rc (cl2 (en func31) (qA (fP:=IsI k1 z) 0 14) (qA (fP:=IsI 2 ((-4194304))) 1 15) (λx0 x1 w' hE d0 d1=>zC (jE d0 d1 zl dcx) λ_ _ h=>h.int HC2.out)) ?_;refine Rc (bn (r:=.bool true) (qC 2 16) qE (hr:=λw=>by have hx9:=HC2B.out;go_simp)) ?_;exact rn0
 intro v W3 e1 hH _;replace S:=S.mono e1;simp only[lxE,Nat.reduceAdd];rw[show v 3=.bool true from hH 3 dcx];clear hH e1;refine zO za ?_ _;go_upto_region 4 with fail;refine rgt S 1 [some 2] [iV 2] ?_ ?_
 ·refine Rc zaf ?_;exact rn0
 intro v W4 S hH;simp only[lxE];rw[show v 0=.int .i64 2 from hH 0 dcx];clear hH;go_wp2_with fail;exact zD (v:=.int .i64 2) (by simp[results,results63,go_sem]) rfl (⟨_,rfl,S.ext,rfl⟩)
theorem dref_m{k1:Nat}{z sg q r cq:Int}{x:Value}{w:World}(hx:IsI k1 z x w)(HK:Hid (k1<=131072))(HSG:Hid (z.sign=sg))(HSB:Hid (sg<0))(HQR:Hid (z/4=q))(HR:Hid (z%4=r))(HC1:Hid (qK r 1=cq))(HC1B:Hid (0<cq)):Calls prog 61 #[x] w (Ret w (iV 5)):=by
 obtain⟨s1,a1,n1,c1,W,rfl,hW,S⟩:=en1 hx;go_enter func61,ntmps61;go_upto_region 1 with fail;rw[<-hW];clear hW;have hl:=hid S.lt;have hw:=S.ext.size;refine rgn 12 [some 7,some 8,some 9,some 6,some 10,some 11,some 12,some 3,some 4,none,none,some 5] [IsI k1 z,IsI 2 4,IsT3 (IsI k1 q) (IsI 2 r) (iV 0),IsT3 (IsI k1 q) (IsI 2 r) (iV 0),IsI k1 q,IsI 2 r,iV 0,IsNw W 1,IsNw W 1,TT,TT,iV 0] [7,8] [none,none,none,none,none,none,none,none,none,some (7, [IsI k1 q]),some (8, [IsI 2 r]),none] [none,none,none,none,none,none,none,none,none,some 7,some 8,none] 0 ?_ ?_
 ·refine RcK (ldI S 0 (w.heap.size) 0 (qD 1) qG) ?_;refine RcK (cl1 (en func41) qE (λx0 w' hE d0=>by{obtain rfl:x0=.int .i64 4:=d0;exact xT _ 4 dcx dcx})) ?_;refine RcK (cl2 (en func111) (qA (fP:=IsI k1 z) 0 7) (qA (fP:=IsI 2 4) 1 8) (λx0 x1 w' hE d0 d1=>zfd)) ?_;refine RcK (mv (qA 2 9)) ?_;refine RcK (ex (qC 3 6) t30) ?_;refine RcK (ex (qC 3 6) t31) ?_;refine RcK (ex (qC 3 6) t32) ?_;refine RcK (alN qR) ?_;refine RcK (alN qR) ?_;refine RcS 7 (sI qJ (qA (fP:=IsI k1 q) 4 10)) ?_;refine RcS 8 (sI qJ (qA (fP:=IsI 2 r) 5 11)) ?_;refine RcK (mv (qA 6 12)) ?_;exact RgAllN.nil
 intro v W1 e1 hH hS hne;replace S:=S.mono e1;obtain⟨g3,v7,q1,S2⟩:=S.addI (hH 7 dcx rfl) (hS 9 dcx _ _ rfl) hw (IsI.gstb _ _);replace S:=S2 (ApartO.old hl.out q1);clear S2;obtain⟨g4,v8,q2,S2⟩:=S.addI (hH 8 dcx rfl) (hS 10 dcx _ _ rfl) hw (IsI.gstb _ _);replace S:=S2 (ApartO.cons (λh=>hne 7 8 dcx dcx dcx dcx dcx rfl rfl zbt) (ApartO.old hl.out q2));clear S2;simp only[lxE,Nat.reduceAdd];rw[v7,v8];clear hl hw hne v7 v8 hH hS e1;refine zO za ?_ _;go_upto_region 2 with fail;refine rg 10 [some 14,some 15,some 16,some 17,some 18,some 19,some 20,some 21,some 22,some 13] [IsI k1 z,iV sg,IsV (.bool false),IsV (.bool false),IsI 2 r,IsI 2 1,iV cq,IsV (.bool true),IsV (.bool true),IsV (.bool true)] [] 0 ?_ ?_
 ·refine Rc zv ?_;refine Rc zah ?_;refine Rc jv ?_;refine Rc zbw ?_;refine RcG 3 17 false (ldI S 0 (g4) 0 (qD 4) qG) ?_;refine RcG 3 17 false zm ?_;refine RcG 3 17 false yg ?_;refine RcG 3 17 false (bn (r:=.bool true) (qC 6 20) qE (hr:=λw=>by have hx9:=HC1B.out;go_simp)) ?_;refine Rc zbn ?_;refine Rc zdn ?_;exact rn0
 intro v W2 e1 hH _;replace S:=S.mono e1;simp only[lxE,Nat.reduceAdd];rw[show v 9=.bool true from hH 9 dcx];clear hH e1;refine zO za ?_ _;go_upto_region 3 with fail;refine rgt S 1 [some 2] [iV 5] ?_ ?_
 ·refine Rc zaf ?_;exact rn0
 intro v W3 S hH;simp only[lxE];rw[show v 0=.int .i64 5 from hH 0 dcx];clear hH;go_wp2_with fail;exact zD (v:=.int .i64 5) zb5 rfl (⟨_,rfl,S.ext,rfl⟩)
theorem dref_b{k1:Nat}{z sg q r cq cr:Int}{x:Value}{w:World}(hx:IsI k1 z x w)(HK:Hid (k1<=131072))(HSG:Hid (z.sign=sg))(HSB:Hid (sg<0))(HQR:Hid (z/4=q))(HR:Hid (z%4=r))(HC1:Hid (qK r 1=cq))(HC1B:Hid (¬0<cq))(HC2:Hid (qK z (-4194304)=cr))(HC2B:Hid (cr<0)):Calls prog 61 #[x] w (Ret w (iV 2)):=by
 obtain⟨s1,a1,n1,c1,W,rfl,hW,S⟩:=en1 hx;go_enter func61,ntmps61;go_upto_region 1 with fail;rw[<-hW];clear hW;have hl:=hid S.lt;have hw:=S.ext.size;refine rgn 12 [some 7,some 8,some 9,some 6,some 10,some 11,some 12,some 3,some 4,none,none,some 5] [IsI k1 z,IsI 2 4,IsT3 (IsI k1 q) (IsI 2 r) (iV 0),IsT3 (IsI k1 q) (IsI 2 r) (iV 0),IsI k1 q,IsI 2 r,iV 0,IsNw W 1,IsNw W 1,TT,TT,iV 0] [7,8] [none,none,none,none,none,none,none,none,none,some (7, [IsI k1 q]),some (8, [IsI 2 r]),none] [none,none,none,none,none,none,none,none,none,some 7,some 8,none] 0 ?_ ?_
 ·refine RcK (ldI S 0 (w.heap.size) 0 (qD 1) qG) ?_;refine RcK (cl1 (en func41) qE (λx0 w' hE d0=>by{obtain rfl:x0=.int .i64 4:=d0;exact xT _ 4 dcx dcx})) ?_;refine RcK (cl2 (en func111) (qA (fP:=IsI k1 z) 0 7) (qA (fP:=IsI 2 4) 1 8) (λx0 x1 w' hE d0 d1=>zfd)) ?_;refine RcK (mv (qA 2 9)) ?_;refine RcK (ex (qC 3 6) t30) ?_;refine RcK (ex (qC 3 6) t31) ?_;refine RcK (ex (qC 3 6) t32) ?_;refine RcK (alN qR) ?_;refine RcK (alN qR) ?_;refine RcS 7 (sI qJ (qA (fP:=IsI k1 q) 4 10)) ?_;refine RcS 8 (sI qJ (qA (fP:=IsI 2 r) 5 11)) ?_;refine RcK (mv (qA 6 12)) ?_;exact RgAllN.nil
 intro v W1 e1 hH hS hne;replace S:=S.mono e1;obtain⟨g3,v7,q1,S2⟩:=S.addI (hH 7 dcx rfl) (hS 9 dcx _ _ rfl) hw (IsI.gstb _ _);replace S:=S2 (ApartO.old hl.out q1);clear S2;obtain⟨g4,v8,q2,S2⟩:=S.addI (hH 8 dcx rfl) (hS 10 dcx _ _ rfl) hw (IsI.gstb _ _);replace S:=S2 (ApartO.cons (λh=>hne 7 8 dcx dcx dcx dcx dcx rfl rfl zbt) (ApartO.old hl.out q2));clear S2;simp only[lxE,Nat.reduceAdd];rw[v7,v8];clear hl hw hne v7 v8 hH hS e1;refine zO za ?_ _;go_upto_region 2 with fail;refine rg 10 [some 14,some 15,some 16,some 17,some 18,some 19,some 20,some 21,some 22,some 13] [IsI k1 z,iV sg,IsV (.bool false),IsV (.bool false),IsI 2 r,IsI 2 1,iV cq,IsV (.bool false),IsV (.bool false),IsV (.bool false)] [] 0 ?_ ?_
 ·refine Rc zv ?_;refine Rc zah ?_;refine Rc jv ?_;refine Rc zbw ?_;refine RcG 3 17 false (ldI S 0 (g4) 0 (qD 4) qG) ?_;refine RcG 3 17 false zm ?_;refine RcG 3 17 false yg ?_;refine RcG 3 17 false (bn (r:=.bool false) (qC 6 20) qE (hr:=λw=>by have hx9:=HC1B.out;go_simp)) ?_;refine Rc zbn ?_;refine Rc zdn ?_;exact rn0
 intro v W2 e1 hH _;replace S:=S.mono e1;simp only[lxE,Nat.reduceAdd];rw[show v 9=.bool false from hH 9 dcx];clear hH e1;refine zO za ?_ _;go_upto_region 4 with fail;refine rg 5 [some 24,some 25,some 26,some 27,some 23] [IsI k1 z,IsI 2 ((-4194304)),iV cr,IsV (.bool true),IsV (.bool true)] [] 0 ?_ ?_
 ·refine Rc zv ?_;refine Rc zbu ?_;refine Rc (cl2 (en func52) (qA (fP:=IsI k1 z) 0 24) (qA (fP:=IsI 2 ((-4194304))) 1 25) (λx0 x1 w' hE d0 d1=>zC (jB d0 d1 zl dcx) λ_ _ h=>h.int HC2.out)) ?_;refine Rc (bn (r:=.bool true) (qC 2 26) qE (hr:=λw=>by have hx9:=HC2B.out;go_simp)) ?_;refine Rc (mv (qA 3 27)) ?_;exact rn0
 intro v W4 e1 hH _;replace S:=S.mono e1;simp only[lxE,Nat.reduceAdd];rw[show v 4=.bool true from hH 4 dcx];clear hH e1;refine zO za ?_ _;go_upto_region 5 with fail;refine rgt S 1 [some 2] [iV 2] ?_ ?_
 ·refine Rc zaf ?_;exact rn0
 intro v W5 S hH;simp only[lxE];rw[show v 0=.int .i64 2 from hH 0 dcx];clear hH;go_wp2_with fail;exact zD (v:=.int .i64 2) zb5 rfl (⟨_,rfl,S.ext,rfl⟩)
theorem rref_g{k1:Nat}{z:Int}{x:Value}{w:World}(hx:IsI k1 z x w)(l1:k1<=131072):Calls prog 63 #[x] w (Ret w (iV (dE z))):=by
 unfold dE;by_cases hz:0<=z
 ·rw[if_pos (Or.inl hz)];exact rref_p hx (hid l1) (hid rfl) (hid (Int.sign_nonneg_iff.2 hz))
 have hs:z.sign<0:=by rw[Int.sign_eq_neg_one_of_neg (by omega)];decide
 by_cases hm:1<z%4
 ·rw[if_pos (Or.inr hm)];exact rref_m hx (hid l1) (hid rfl) (hid hs) (hid rfl) (hid rfl) (hid rfl) (hid (by unfold qK;rw[if_neg (by omega),if_pos hm];decide))
 rw[if_neg (λh=>h.elim hz hm)];by_cases hb:z< -4194304
 ·rw[if_pos hb];exact rref_b hx (hid l1) (hid rfl) (hid hs) (hid rfl) (hid rfl) (hid rfl) (hid (by unfold qK;split <;>(try split) <;> omega)) (hid rfl) (hid (by unfold qK;rw[if_pos hb];decide))
 ·rw[if_neg hb];obtain⟨n,rfl⟩:∃n:Nat,z= -(n:Int):=⟨(-z).toNat,by omega⟩;exact rrefused_f hx zb zb
theorem dref_g{k1:Nat}{z:Int}{x:Value}{w:World}(hx:IsI k1 z x w)(l1:k1<=131072):Calls prog 61 #[x] w (Ret w (iV (dE z))):=by
 unfold dE;by_cases hz:0<=z
 ·rw[if_pos (Or.inl hz)];exact drefused_p hx zb hz
 have hs:z.sign<0:=by rw[Int.sign_eq_neg_one_of_neg (by omega)];decide
 by_cases hm:1<z%4
 ·rw[if_pos (Or.inr hm)];exact dref_m hx (hid l1) (hid rfl) (hid hs) (hid rfl) (hid rfl) (hid rfl) (hid (by unfold qK;rw[if_neg (by omega),if_pos hm];decide))
 rw[if_neg (λh=>h.elim hz hm)];by_cases hb:z< -4194304
 ·rw[if_pos hb];exact dref_b hx (hid l1) (hid rfl) (hid hs) (hid rfl) (hid rfl) (hid rfl) (hid (by unfold qK;split <;>(try split) <;> omega)) (hid rfl) (hid (by unfold qK;rw[if_pos hb];decide))
 ·rw[if_neg hb];obtain⟨n,rfl⟩:∃n:Nat,z= -(n:Int):=⟨(-z).toNat,by omega⟩;exact jN hx zb zb
theorem Refused_e{k1 k2:Nat}{z z2 ue:Int}{x y:Value}{w:World}(hx:IsI k1 z x w)(hy:IsI k2 z2 y w)(HK:Hid (k1<=131072))(HE:Hid (dE z=ue))(HUB:Hid ((ue !=0)=true)):Calls prog 23 #[x,y] w (Ret w (iV ue)):=by
 obtain⟨s1,a1,n1,c1,s2,a2,n2,c2,W,rfl,rfl,hW,S⟩:=en2 hx hy;go_enter func23,ntmps23;go_upto_region 1 with fail;rw[<-hW];clear hW;refine rgt S 3 [some 9,some 10,some 5] [IsI k1 z,iV ue,iV ue] ?_ ?_
 ·refine Rc zf ?_;refine Rc (cl1 (en func63) (qA (fP:=IsI k1 z) 0 9) (λx0 w' hE d0=>(by have hh:=rref_g d0 HK.out;rw[HE.out]at hh;exact hh))) ?_;refine Rc zbo ?_;exact rn0
 intro v W1 S hH;simp only[lxE,Nat.reduceAdd];rw[show v 2=.int .i64 ue from hH 2 dcx];clear hH;go_upto_region 2 with fail;refine rgt S 2 [some 11,some 12] [iV ue,IsV (.bool true)] ?_ ?_
 ·refine Rc ja ?_;refine Rc (bn (r:=.bool true) (qC 0 11) qE (hr:=λw=>by have hx9:=HUB.out;go_simp)) ?_;exact rn0
 intro v W2 S hH;simp only[lxE,Nat.reduceAdd];rw[show v 1=.bool true from hH 1 dcx];clear hH;go_upto_region 3 with fail;refine rgt S 2 [some 13,some 4] [iV ue,iV ue] ?_ ?_
 ·refine Rc ja ?_;refine Rc (mv (qA 0 13)) ?_;exact rn0
 intro v W3 S hH;simp only[lxE,Nat.reduceAdd];rw[show v 1=.int .i64 ue from hH 1 dcx];clear hH;go_wp2_with fail;exact zD (v:=.int .i64 ue) zb6 rfl (⟨_,rfl,S.ext,rfl⟩)
theorem unsuitable_e{k1 k2:Nat}{z z2 ue:Int}{x y:Value}{w:World}(hx:IsI k1 z x w)(hy:IsI k2 z2 y w)(HK:Hid (k1<=131072))(HE:Hid (dE z=ue))(HUB:Hid ((ue !=0)=true)):Calls prog 39 #[x,y] w (Ret w (iV ue)):=by
 obtain⟨s1,a1,n1,c1,s2,a2,n2,c2,W,rfl,rfl,hW,S⟩:=en2 hx hy;go_enter func39,ntmps39;go_upto_region 1 with fail;rw[<-hW];clear hW;refine rgt S 3 [some 9,some 10,some 5] [IsI k1 z,iV ue,iV ue] ?_ ?_
 ·refine Rc zf ?_;refine Rc (cl1 (en func61) (qA (fP:=IsI k1 z) 0 9) (λx0 w' hE d0=>(by have hh:=dref_g d0 HK.out;rw[HE.out]at hh;exact hh))) ?_;refine Rc zbo ?_;exact rn0
 intro v W1 S hH;simp only[lxE,Nat.reduceAdd];rw[show v 2=.int .i64 ue from hH 2 dcx];clear hH;go_upto_region 2 with fail;refine rgt S 2 [some 11,some 12] [iV ue,IsV (.bool true)] ?_ ?_
 ·refine Rc ja ?_;refine Rc (bn (r:=.bool true) (qC 0 11) qE (hr:=λw=>by have hx9:=HUB.out;go_simp)) ?_;exact rn0
 intro v W2 S hH;simp only[lxE,Nat.reduceAdd];rw[show v 1=.bool true from hH 1 dcx];clear hH;go_upto_region 3 with fail;refine rgt S 2 [some 13,some 4] [iV ue,iV ue] ?_ ?_
 ·refine Rc ja ?_;refine Rc (mv (qA 0 13)) ?_;exact rn0
 intro v W3 S hH;simp only[lxE,Nat.reduceAdd];rw[show v 1=.int .i64 ue from hH 1 dcx];clear hH;go_wp2_with fail;exact zD (v:=.int .i64 ue) zbg rfl (⟨_,rfl,S.ext,rfl⟩)
theorem Total_x{k1 k2:Nat}{z z2 ue:Int}{x y:Value}{w:World}(hx:IsI k1 z x w)(hy:IsI k2 z2 y w)(HUN:Hid (∀(x y:Value) (w:World),IsI k1 z x w->IsI k2 z2 y w->Calls prog 39 #[x,y] w (Ret w (iV ue))))(HUB:Hid ((ue !=0)=true)):Calls prog 12 #[x,y] w (Ret w (IsT2 (iV 0) (iV ue))):=by
 obtain⟨s1,a1,n1,c1,s2,a2,n2,c2,W,rfl,rfl,hW,S⟩:=en2 hx hy;go_enter func12,ntmps12;go_upto_region 1 with fail;rw[<-hW];clear hW;refine rgt S 4 [some 14,some 15,some 16,some 6] [IsI k1 z,IsI k2 z2,iV ue,iV ue] ?_ ?_
 ·refine Rc zf ?_;refine Rc zg ?_;refine Rc (cl2 (en func39) (qA (fP:=IsI k1 z) 0 14) (qA (fP:=IsI k2 z2) 1 15) (λx0 x1 w' hE d0 d1=>HUN.out _ _ _ d0 d1)) ?_;refine Rc zbw ?_;exact rn0
 intro v W1 S hH;simp only[lxE,Nat.reduceAdd];rw[show v 3=.int .i64 ue from hH 3 dcx];clear hH;go_upto_region 2 with fail;refine rgt S 2 [some 17,some 18] [iV ue,IsV (.bool true)] ?_ ?_
 ·refine Rc zaa ?_;refine Rc (bn (r:=.bool true) (qC 0 17) qE (hr:=λw=>by have hx9:=HUB.out;go_simp)) ?_;exact rn0
 intro v W2 S hH;simp only[lxE,Nat.reduceAdd];rw[show v 1=.bool true from hH 1 dcx];clear hH;go_upto_region 3 with fail;refine rgt S 3 [some 19,some 4,some 5] [iV ue,iV 0,iV ue] ?_ ?_
 ·refine Rc zaa ?_;refine Rc zaf ?_;refine Rc (mv (qA 0 19)) ?_;exact rn0
 intro v W3 S hH;simp only[lxE,Nat.reduceAdd];rw[show v 1=.int .i64 0 from hH 1 dcx,show v 2=.int .i64 ue from hH 2 dcx];clear hH;go_wp2_with fail;exact zD (v:=.tuple #[.int .i64 0,.int .i64 ue]) zb9 rfl (⟨_,rfl,S.ext,_,_,rfl,rfl,rfl⟩)
theorem Genus_x{k1 k2:Nat}{z z2 ue:Int}{x y:Value}{w:World}(hx:IsI k1 z x w)(hy:IsI k2 z2 y w)(HUN:Hid (∀(x y:Value) (w:World),IsI k1 z x w->IsI k2 z2 y w->Calls prog 39 #[x,y] w (Ret w (iV ue))))(HUB:Hid ((ue !=0)=true)):Calls prog 14 #[x,y] w (Ret w (IsT2 (IRx []) (iV ue))):=by
 obtain⟨s1,a1,n1,c1,s2,a2,n2,c2,W,rfl,rfl,hW,S⟩:=en2 hx hy;go_enter func14,ntmps14;go_upto_region 1 with fail;rw[<-hW];clear hW;refine rgt S 4 [some 13,some 14,some 15,some 6] [IsI k1 z,IsI k2 z2,iV ue,iV ue] ?_ ?_
 ·refine Rc zf ?_;refine Rc zg ?_;refine Rc (cl2 (en func39) (qA (fP:=IsI k1 z) 0 13) (qA (fP:=IsI k2 z2) 1 14) (λx0 x1 w' hE d0 d1=>HUN.out _ _ _ d0 d1)) ?_;refine Rc zdm ?_;exact rn0
 intro v W1 S hH;simp only[lxE,Nat.reduceAdd];rw[show v 3=.int .i64 ue from hH 3 dcx];clear hH;go_upto_region 2 with fail;refine rgt S 2 [some 16,some 17] [iV ue,IsV (.bool true)] ?_ ?_
 ·refine Rc zaa ?_;refine Rc (bn (r:=.bool true) (qC 0 16) qE (hr:=λw=>by have hx9:=HUB.out;go_simp)) ?_;exact rn0
 intro v W2 S hH;simp only[lxE,Nat.reduceAdd];rw[show v 1=.bool true from hH 1 dcx];clear hH;go_upto_region 3 with fail;refine rgt S 3 [some 18,some 4,some 5] [iV ue,IsV (.slice none 0 0),iV ue] ?_ ?_
 ·refine Rc zaa ?_;refine Rc zaf ?_;refine Rc (mv (qA 0 18)) ?_;exact rn0
 intro v W3 S hH;simp only[lxE,Nat.reduceAdd];rw[show v 1=.slice none 0 0 from hH 1 dcx,show v 2=.int .i64 ue from hH 2 dcx];clear hH;go_wp2_with fail;exact zD (v:=.tuple #[.slice none 0 0,.int .i64 ue]) (by simp[results,results14,go_sem]) rfl (⟨_,rfl,S.ext,⟨_,_,rfl,⟨0,Rwg.nil _ _ _ _⟩,rfl⟩⟩)
theorem rGenus_x{k1 k2:Nat}{z z2 ue:Int}{x y:Value}{w:World}(hx:IsI k1 z x w)(hy:IsI k2 z2 y w)(HUN:Hid (∀(x y:Value) (w:World),IsI k1 z x w->IsI k2 z2 y w->Calls prog 23 #[x,y] w (Ret w (iV ue))))(HUB:Hid ((ue !=0)=true)):Calls prog 15 #[x,y] w (Ret w (IsT2 (IRx []) (iV ue))):=by
 obtain⟨s1,a1,n1,c1,s2,a2,n2,c2,W,rfl,rfl,hW,S⟩:=en2 hx hy;go_enter func15,ntmps15;go_upto_region 1 with fail;rw[<-hW];clear hW;refine rgt S 4 [some 11,some 12,some 13,some 6] [IsI k1 z,IsI k2 z2,iV ue,iV ue] ?_ ?_
 ·refine Rc zf ?_;refine Rc zg ?_;refine Rc (cl2 (en func23) (qA (fP:=IsI k1 z) 0 11) (qA (fP:=IsI k2 z2) 1 12) (λx0 x1 w' hE d0 d1=>HUN.out _ _ _ d0 d1)) ?_;refine Rc zc0 ?_;exact rn0
 intro v W1 S hH;simp only[lxE,Nat.reduceAdd];rw[show v 3=.int .i64 ue from hH 3 dcx];clear hH;go_upto_region 2 with fail;refine rgt S 2 [some 14,some 15] [iV ue,IsV (.bool true)] ?_ ?_
 ·refine Rc zaa ?_;refine Rc zbc ?_;exact rn0
 intro v W2 S hH;simp only[lxE,Nat.reduceAdd];rw[show v 1=.bool true from hH 1 dcx];clear hH;go_upto_region 3 with fail;refine rgt S 3 [some 16,some 4,some 5] [iV ue,IsV (.slice none 0 0),iV ue] ?_ ?_
 ·refine Rc zaa ?_;refine Rc zaf ?_;refine Rc (mv (qA 0 16)) ?_;exact rn0
 intro v W3 S hH;simp only[lxE,Nat.reduceAdd];rw[show v 1=.slice none 0 0 from hH 1 dcx,show v 2=.int .i64 ue from hH 2 dcx];clear hH;go_wp2_with fail;exact zD (v:=.tuple #[.slice none 0 0,.int .i64 ue]) (by simp[results,results15,go_sem]) rfl (⟨_,rfl,S.ext,⟨_,_,rfl,⟨0,Rwg.nil _ _ _ _⟩,rfl⟩⟩)
theorem Rwg.zero(w:World){base:Nat}(hb:base<=w.heap.size):Rwg 3 1 base (w.alloc (.cells #[] 3)) (.slice (some ⟨w.heap.size,0,none⟩) 0 0) 0 []:=by
 refine⟨by simp,.inr ⟨w.heap.size,0,#[],rfl,hb,zS _ _,?_,?_,?_,?_⟩⟩
 all_goals simp
end Go.Proofs.YtknffgdbdadpcaaGreatDoor
