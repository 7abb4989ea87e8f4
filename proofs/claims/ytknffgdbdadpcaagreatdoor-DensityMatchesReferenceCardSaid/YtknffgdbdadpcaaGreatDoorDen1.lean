/-
 Packages count and density: number, size, refused, local. (Printed by wip/gen/den1.py.)
-/
import Derived.Test.YtknffgdbdadpcaaGreatDoorMod3
import Derived.Test.YtknffgdbdadpcaaGreatDoorPw
namespace Go.Proofs.YtknffgdbdadpcaaGreatDoor
open Go Go.RowKit
open Go.Proofs.Tryz
theorem zem{P:Prop}(h:P:=by have hh:=DivMod_f d0 d1 zl dcx dcx;rw[HQR.out.1,HQR.out.2]at hh;exact hh):P:=h
theorem zl{P:Prop}(h:P:=by have:=HK.out;omega):P:=h
theorem zm{P:Prop}(h:P:=by exact cl1 (en func41) qE (λx0 w' hE d0=>by{obtain rfl:x0=.int .i64 1:=d0;exact xT _ 1 dcx dcx})):P:=h
theorem zv{P:Prop}(h:P:=by exact ldI S 2 (w.heap.size) 0 (qD 1) qG):P:=h
theorem jd{P:Prop}(h:P:=by exact cl2 (en func62) (qA (fP:=IsI k1 z) 0 7) (qA (fP:=IsI 2 ((p:Int))) 2 9) (λx0 x1 w' hE d0 d1=>(by have hh:=Kron_f d0 d1 HK.out dcx (HSG.out.ext (S.ext.trans hE)) HP.out.2.2;rw[HCH.out]at hh;exact hh))):P:=h
theorem jp{P:Prop}(h:P:=by exact ldI S 0 (w.heap.size) 0 (qD 3) qG):P:=h
theorem ya{P:Prop}(h:P:=by exact cl1 (en func41) (qA (fP:=iV (p:Int)) 1 8) (λx0 w' hE d0=>by{obtain rfl:x0=.int .i64 (p:Int):=d0;exact xT _ (p:Int) HP.out.1 HP.out.2.1})):P:=h
theorem yg{P:Prop}(h:P:=by exact cl2 (en func52) (qA (fP:=IsI 2 r) 4 18) (qA (fP:=IsI 2 1) 5 19) (λx0 x1 w' hE d0 d1=>zC (jB d0 d1 dcx dcx) λ_ _ h=>h.int HC1.out)):P:=h
theorem yr{P:Prop}(h:P:=by exact mv (qD 8)):P:=h
theorem yv{P:Prop}(h:P:=by have:=HNB.out;omega):P:=h
theorem yw{P:Prop}(h:P:=by exact bn (r:=.bool false) (qC 1 15) qE (hr:=λw=>by go_simp)):P:=h
theorem xa{P:Prop}(h:P:=by exact mv (qD 7)):P:=h
theorem zbn{P:Prop}(h:P:=by exact pk (qC 3 17) (qA 7 21)):P:=h
theorem zbu{P:Prop}(h:P:=by exact cl1 (en func41) qE (λx0 w' hE d0=>by{obtain rfl:x0=.int .i64 (-4194304):=d0;exact xT _ ((-4194304)) dcx dcx})):P:=h
theorem zbw{P:Prop}(h:P:=by exact mv (qA 2 16)):P:=h
theorem zb5{P:Prop}(h:P:=by simp[results,results61,go_sem]):P:=h
theorem zcl{P:Prop}(h:P:=by exact mv (qD 2)):P:=h
theorem zc1{P:Prop}(h:P:=by exact bn (r:=.bool false) (qD (x:=.int .i64 ch) 10) qE (hr:=λw=>by have hx9:=HZ.out;go_simp)):P:=h
theorem zdn{P:Prop}(h:P:=by exact mv (qA 8 22)):P:=h
set_option maxRecDepth 100000
set_option maxHeartbeats 4000000
theorem number_f(w:World)(z:Int)(h1: -9223372036854775808<=z)(h2:z<=9223372036854775807):Calls prog 75 #[.int .i64 z] w (Ret w (IsI 2 z)):=by
 have HZ:=hid (zJ h1 h2);clear h1 h2;obtain⟨W,hW,S⟩:∃W,W=w.alloc (.cells #[.bool false,.slice none 0 0] 33)/\Sto w W [((w.heap.size,0),IsI 0 0)]:=⟨_,rfl,((Sto.start w).new1 (w.heap.size) zh false none 0 0 33 (IsI 0 0) (IsI.gstb _ _) (IsI.nil _ _))⟩;go_enter func75,ntmps75;go_upto_region 1 with fail;rw[<-hW];clear hW;refine rgs 2 [some 3,some 4] [iV z,IsI 2 z] [] ?_ ?_
 ·refine Rc jm ?_;refine Rc (cl1 (en func41) (qA (fP:=iV z) 0 3) (λx0 w' hE d0=>by{obtain rfl:x0=.int .i64 z:=d0;exact xT _ z HZ.out.1 HZ.out.2})) ?_;exact rn0
 intro v W1 e1 hH _;replace S:=S.mono e1;have h4:=hH 1 dcx;simp only[lxE,Nat.reduceAdd];clear hH e1
 try simp only[dxE]
 (with_reducible refine stL ?_ zfe);intro KK hKK;refine stI S 0 (w.heap.size) 0 h4 qJ (λW1a S2 G2=>hKK _ _ ?_) rfl
 replace S:=S2;clear S2 G2 hKK KK h4;simp only[u0x]at S;refine zF ?_;go_wp2_with fail;obtain⟨s90x,a90x,n90x,c90x,b90x,h90x⟩:=S.at 0 (w.heap.size) 0 (IsI 2 z) rfl;have L90xa:World.cell? W1a ⟨w.heap.size,0,none⟩=some (.bool s90x):=b90x.c0;have L90xb:World.cell? W1a ⟨w.heap.size,1,none⟩=some (.slice a90x n90x c90x):=b90x.c1;exact zD (v:=.agg #[.bool s90x,.slice a90x n90x c90x]) (by simp[results,results75,go_sem,L90xa,L90xb]) rfl (⟨_,rfl,S.ext,h90x⟩)
theorem jN{k1 n:Nat}{x:Value}{w:World}(hx:IsI k1 (-(n:Int)) x w)(l1:k1<=16777216)(hn:1<=n/\n<=4194304/\(n%4=0\/n%4=3)):Calls prog 61 #[x] w (Ret w (iV 0)):=by
 have HK:=hid l1;obtain⟨q,hq⟩:∃x,(-(n:Int))/4=x:=⟨_,rfl⟩;obtain⟨r,hr⟩:∃x,(-(n:Int))%4=x:=⟨_,rfl⟩;have HQR:=hid (zJ hq hr);have hr1:r<=1:=zb
 have HSG:=hid (show(-(n:Int)).sign= -1 from Int.sign_eq_neg_one_of_neg zb);obtain⟨cq,hcq⟩:∃x,qK r 1=x:=⟨_,rfl⟩;have HC1:=hid hcq
 have HC1B:=hid (show decide (0<cq)=false by
  rw[<-hcq,zK];unfold qK
  split
  ·decide
  ·rw[if_neg (by omega)];decide)
 obtain⟨cr,hcr⟩:∃x,qK (-(n:Int)) (-4194304)=x:=⟨_,rfl⟩;have HC2:=hid hcr
 have HC2B:=hid (show decide (cr<0)=false by
  rw[<-hcr,zK];unfold qK;rw[if_neg (by omega)]
  split <;> decide)
 clear l1 hn hq hr hr1 hcq hcr;obtain⟨s1,a1,n1,c1,W,rfl,hW,S⟩:=en1 hx;go_enter func61,ntmps61;go_upto_region 1 with fail;rw[<-hW];clear hW;have hl:=hid S.lt;have hw:=S.ext.size;refine rgn 12 [some 7,some 8,some 9,some 6,some 10,some 11,some 12,some 3,some 4,none,none,some 5] [IsI k1 (-(n:Int)),IsI 2 4,IsT3 (IsI k1 q) (IsI 2 r) (iV 0),IsT3 (IsI k1 q) (IsI 2 r) (iV 0),IsI k1 q,IsI 2 r,iV 0,IsNw W 1,IsNw W 1,TT,TT,iV 0] [7,8] [none,none,none,none,none,none,none,none,none,some (7, [IsI k1 q]),some (8, [IsI 2 r]),none] [none,none,none,none,none,none,none,none,none,some 7,some 8,none] 0 ?_ ?_
 ·refine RcK (ldI S 0 (w.heap.size) 0 (qD 1) qG) ?_;refine RcK (cl1 (en func41) qE (λx0 w' hE d0=>by{obtain rfl:x0=.int .i64 4:=d0;exact xT _ 4 dcx dcx})) ?_;refine RcK (cl2 (en func111) (qA (fP:=IsI k1 (-(n:Int))) 0 7) (qA (fP:=IsI 2 4) 1 8) (λx0 x1 w' hE d0 d1=>zem)) ?_;refine RcK (mv (qA 2 9)) ?_;refine RcK (ex (qC 3 6) t30) ?_;refine RcK (ex (qC 3 6) t31) ?_;refine RcK (ex (qC 3 6) t32) ?_;refine RcK (alN qR) ?_;refine RcK (alN qR) ?_;refine RcS 7 (sI qJ (qA (fP:=IsI k1 q) 4 10)) ?_;refine RcS 8 (sI qJ (qA (fP:=IsI 2 r) 5 11)) ?_;refine RcK (mv (qA 6 12)) ?_;exact RgAllN.nil
 intro v W1 e1 hH hS hne;replace S:=S.mono e1;obtain⟨g3,v7,q1,S2⟩:=S.addI (hH 7 dcx rfl) (hS 9 dcx _ _ rfl) hw (IsI.gstb _ _);replace S:=S2 (ApartO.old hl.out q1);clear S2;obtain⟨g4,v8,q2,S2⟩:=S.addI (hH 8 dcx rfl) (hS 10 dcx _ _ rfl) hw (IsI.gstb _ _);replace S:=S2 (ApartO.cons (λh=>hne 7 8 dcx dcx dcx dcx dcx rfl rfl zbt) (ApartO.old hl.out q2));clear S2;simp only[lxE,Nat.reduceAdd];rw[v7,v8];clear hl hw hne v7 v8 hH hS e1;refine zO za ?_ _;go_upto_region 2 with fail;refine rg 10 [some 14,some 15,some 16,some 17,some 18,some 19,some 20,some 21,some 22,some 13] [IsI k1 (-(n:Int)),iV (-1),IsV (.bool false),IsV (.bool false),IsI 2 r,IsI 2 1,iV cq,IsV (.bool false),IsV (.bool false),IsV (.bool false)] [] 0 ?_ ?_
 ·refine Rc zv ?_;refine Rc (cl1 (en func84) (qA (fP:=IsI k1 (-(n:Int))) 0 14) (λx0 w' hE d0=>zC (jA d0) λ_ _ h=>h.int (HSG.out))) ?_;refine Rc yw ?_;refine Rc zbw ?_;refine RcG 3 17 false (ldI S 0 (g4) 0 (qD 4) qG) ?_;refine RcG 3 17 false zm ?_;refine RcG 3 17 false yg ?_;refine RcG 3 17 false (bn (r:=.bool false) (qC 6 20) qE (hr:=λw=>by have hx9:=HC1B.out;go_simp)) ?_;refine Rc zbn ?_;refine Rc zdn ?_;exact rn0
 intro v W2 e1 hH _;replace S:=S.mono e1;simp only[lxE,Nat.reduceAdd];rw[show v 9=.bool false from hH 9 dcx];clear hH e1;refine zO za ?_ _;go_upto_region 4 with fail;refine rg 5 [some 24,some 25,some 26,some 27,some 23] [IsI k1 (-(n:Int)),IsI 2 ((-4194304)),iV cr,IsV (.bool false),IsV (.bool false)] [] 0 ?_ ?_
 ·refine Rc zv ?_;refine Rc zbu ?_;refine Rc (cl2 (en func52) (qA (fP:=IsI k1 (-(n:Int))) 0 24) (qA (fP:=IsI 2 ((-4194304))) 1 25) (λx0 x1 w' hE d0 d1=>zC (jB d0 d1 zl dcx) λ_ _ h=>h.int HC2.out)) ?_;refine Rc (bn (r:=.bool false) (qC 2 26) qE (hr:=λw=>by have hx9:=HC2B.out;go_simp)) ?_;refine Rc (mv (qA 3 27)) ?_;exact rn0
 intro v W4 e1 hH _;replace S:=S.mono e1;simp only[lxE,Nat.reduceAdd];rw[show v 4=.bool false from hH 4 dcx];clear hH e1;refine zO za ?_ _;go_upto_region 6 with fail;refine rgt S 1 [some 2] [iV 0] ?_ ?_
 ·refine Rc zaf ?_;exact rn0
 intro v W6 S hH;simp only[lxE];rw[show v 0=.int .i64 0 from hH 0 dcx];clear hH;go_wp2_with fail;exact zD (v:=.int .i64 0) zb5 rfl (⟨_,rfl,S.ext,rfl⟩)
theorem csize_f{k1 n:Nat}{x:Value}{w:World}(hx:IsI k1 (-(n:Int)) x w)(l1:k1<=16777216)(hn:1<=n/\n<=4194304/\(n%4=0\/n%4=3)):Calls prog 74 #[x] w (Ret w (IsT2 (iV (n:Int)) (iV 0))):=by
 have HK:=hid l1;obtain⟨q,hq⟩:∃x,(-(n:Int))/4=x:=⟨_,rfl⟩;obtain⟨r,hr⟩:∃x,(-(n:Int))%4=x:=⟨_,rfl⟩;have HQR:=hid (zJ hq hr);have hr1:r<=1:=zb
 have HSG:=hid (show(-(n:Int)).sign= -1 from Int.sign_eq_neg_one_of_neg zb);obtain⟨cq,hcq⟩:∃x,qK r 1=x:=⟨_,rfl⟩;have HC1:=hid hcq
 have HC1B:=hid (show decide (0<cq)=false by
  rw[<-hcq,zK];unfold qK
  split
  ·decide
  ·rw[if_neg (by omega)];decide)
 have HNB:=hid hn.2.1;clear l1 hn hq hr hr1 hcq;obtain⟨s1,a1,n1,c1,W,rfl,hW,S⟩:=en1 hx;go_enter func74,ntmps74;go_upto_region 1 with fail;rw[<-hW];clear hW;have hl:=hid S.lt;have hw:=S.ext.size;refine rgn 12 [some 10,some 11,some 12,some 9,some 13,some 14,some 15,some 4,some 5,none,none,some 6] [IsI k1 (-(n:Int)),IsI 2 4,IsT3 (IsI k1 q) (IsI 2 r) (iV 0),IsT3 (IsI k1 q) (IsI 2 r) (iV 0),IsI k1 q,IsI 2 r,iV 0,IsNw W 1,IsNw W 1,TT,TT,iV 0] [7,8] [none,none,none,none,none,none,none,none,none,some (7, [IsI k1 q]),some (8, [IsI 2 r]),none] [none,none,none,none,none,none,none,none,none,some 7,some 8,none] 0 ?_ ?_
 ·refine RcK (ldI S 0 (w.heap.size) 0 (qD 1) qG) ?_;refine RcK (cl1 (en func75) qE (λx0 w' hE d0=>by{obtain rfl:x0=.int .i64 4:=d0;exact number_f _ 4 dcx dcx})) ?_;refine RcK (cl2 (en func111) (qA (fP:=IsI k1 (-(n:Int))) 0 10) (qA (fP:=IsI 2 4) 1 11) (λx0 x1 w' hE d0 d1=>zem)) ?_;refine RcK (mv (qA 2 12)) ?_;refine RcK (ex (qC 3 9) t30) ?_;refine RcK (ex (qC 3 9) t31) ?_;refine RcK (ex (qC 3 9) t32) ?_;refine RcK (alN qR) ?_;refine RcK (alN qR) ?_;refine RcS 7 (sI qJ (qA (fP:=IsI k1 q) 4 13)) ?_;refine RcS 8 (sI qJ (qA (fP:=IsI 2 r) 5 14)) ?_;refine RcK (mv (qA 6 15)) ?_;exact RgAllN.nil
 intro v W1 e1 hH hS hne;replace S:=S.mono e1;obtain⟨g4,v7,q1,S2⟩:=S.addI (hH 7 dcx rfl) (hS 9 dcx _ _ rfl) hw (IsI.gstb _ _);replace S:=S2 (ApartO.old hl.out q1);clear S2;obtain⟨g5,v8,q2,S2⟩:=S.addI (hH 8 dcx rfl) (hS 10 dcx _ _ rfl) hw (IsI.gstb _ _);replace S:=S2 (ApartO.cons (λh=>hne 7 8 dcx dcx dcx dcx dcx rfl rfl zbt) (ApartO.old hl.out q2));clear S2;simp only[lxE,Nat.reduceAdd];rw[v7,v8];clear hl hw hne v7 v8 hH hS e1;refine zO za ?_ _;go_upto_region 2 with fail;refine rg 9 [some 16,some 17,some 18,some 19,some 20,some 21,some 22,some 23,some 24] [IsI k1 (-(n:Int)),iV (-1),IsV (.bool false),IsV (.bool false),IsI 2 r,IsI 2 1,iV cq,IsV (.bool false),IsV (.bool false)] [] 0 ?_ ?_
 ·refine Rc zv ?_;refine Rc (cl1 (en func84) (qA (fP:=IsI k1 (-(n:Int))) 0 16) (λx0 w' hE d0=>zC (jA d0) λ_ _ h=>h.int (HSG.out))) ?_;refine Rc (bn (r:=.bool false) (qC 1 17) qE (hr:=λw=>by go_simp)) ?_;refine Rc (mv (qA 2 18)) ?_;refine RcG 3 19 false za1 ?_;refine RcG 3 19 false (cl1 (en func75) qE (λx0 w' hE d0=>by{obtain rfl:x0=.int .i64 1:=d0;exact number_f _ 1 dcx dcx})) ?_;refine RcG 3 19 false (cl2 (en func52) (qA (fP:=IsI 2 r) 4 20) (qA (fP:=IsI 2 1) 5 21) (λx0 x1 w' hE d0 d1=>zC (jB d0 d1 dcx dcx) λ_ _ h=>h.int HC1.out)) ?_;refine RcG 3 19 false (bn (r:=.bool false) (qC 6 22) qE (hr:=λw=>by have hx9:=HC1B.out;go_simp)) ?_;refine Rc (pk (qC 3 19) (qA 7 23)) ?_;exact rn0
 intro v W2 e1 hH _;replace S:=S.mono e1;simp only[lxE,Nat.reduceAdd];rw[show v 8=.bool false from hH 8 dcx];clear hH e1;refine zO za ?_ _;go_upto_region 4 with fail;refine rgt S 8 [some 26,some 27,some 28,some 25,some 29,some 30,some 7,some 8] [IsI k1 (-(n:Int)),IsI k1 ((n:Int)),IsT2 (iV (n:Int)) (IsV (.bool true)),IsT2 (iV (n:Int)) (IsV (.bool true)),iV (n:Int),IsV (.bool true),iV (n:Int),IsV (.bool true)] ?_ ?_
 ·refine Rc zv ?_;refine Rc (cl1 (en func114) (qA (fP:=IsI k1 (-(n:Int))) 0 26) (λx0 w' hE d0=>zC (Neg_f d0) λ_ _ h=>h.eqz (Int.neg_neg _))) ?_;refine Rc (cl1 (en func42) (qA (fP:=IsI k1 ((n:Int))) 1 27) (λx0 w' hE d0=>Low_t d0 yv yv)) ?_;refine Rc (mv (qA 2 28)) ?_;refine Rc (ex (qC 3 25) t20) ?_;refine Rc (ex (qC 3 25) t21) ?_;refine Rc (mv (qA 4 29)) ?_;refine Rc (mv (qA 5 30)) ?_;exact rn0
 intro v W4 S hH;simp only[lxE,Nat.reduceAdd];rw[show v 6=.int .i64 (n:Int)from hH 6 dcx,show v 7=.bool true from hH 7 dcx];clear hH;go_upto_region 5 with fail;refine rgt S 6 [some 31,some 32,some 33,some 34,some 35,some 36] [IsV (.bool true),IsV (.bool false),IsV (.bool false),iV (n:Int),IsV (.bool false),IsV (.bool false)] ?_ ?_
 ·refine Rc yr ?_;refine Rc (nt (qC 0 31)) ?_;refine Rc (mv (qA 1 32)) ?_;refine RcG 2 33 false xa ?_;refine RcG 2 33 false (bn (r:=.bool false) (qC 3 34) qE (hr:=λw=>by have hx9:=HNB.out;have hx8:(n:Int)<=4194304:=(by omega);go_simp)) ?_;refine Rc (pk (qC 2 33) (qA 4 35)) ?_;exact rn0
 intro v W5 S hH;simp only[lxE,Nat.reduceAdd];rw[show v 5=.bool false from hH 5 dcx];clear hH;go_upto_region 7 with fail;refine rgt S 3 [some 37,some 2,some 3] [iV (n:Int),iV (n:Int),iV 0] ?_ ?_
 ·refine Rc xa ?_;refine Rc (mv (qA 0 37)) ?_;refine Rc zaf ?_;exact rn0
 intro v W7 S hH;simp only[lxE,Nat.reduceAdd];rw[show v 1=.int .i64 (n:Int)from hH 1 dcx,show v 2=.int .i64 0 from hH 2 dcx];clear hH;go_wp2_with fail;exact zD (v:=.tuple #[.int .i64 (n:Int),.int .i64 0]) (by simp[results,results74,go_sem]) rfl (⟨_,rfl,S.ext,⟨_,_,rfl,rfl,rfl⟩⟩)
theorem dlocal_0{k1 p k:Nat}{z ch:Int}{x:Value}{w:World}(hx:IsI k1 z x w)(HK:Hid (k1<=33554432))(HSG:Hid (Sg w))(HP:Hid (-9223372036854775808<=(p:Int)/\(p:Int)<=9223372036854775807/\0<p/\p<=4611686018427387904))(HCH:Hid (kr z p=ch))(HZ:Hid ((ch==0)=true)):Calls prog 44 #[x,.int .i64 (p:Int),.int .i64 (k:Int)] w (Ret w (iV (1))):=by
 obtain⟨s1,a1,n1,c1,W,rfl,hW,S⟩:=en1 hx;go_enter func44,ntmps44;go_upto_region 1 with fail;rw[<-hW];clear hW;refine rg 4 [some 7,some 8,some 9,some 10] [IsI k1 z,iV (p:Int),IsI 2 ((p:Int)),iV ch] [] 0 ?_ ?_
 ·refine Rc jp ?_;refine Rc (mv (qD 1)) ?_;refine Rc ya ?_;refine Rc jd ?_;exact rn0
 intro v W1 e1 hH _;replace S:=S.mono e1;simp only[lxE,Nat.reduceAdd];rw[show v 3=.int .i64 ch from hH 3 dcx];clear hH e1;refine zO za ?_ _;go_upto_region 2 with fail;refine rgt S 2 [some 12,some 11] [IsV (.bool true),IsV (.bool true)] ?_ ?_
 ·refine Rc (bn (r:=.bool true) (qD (x:=.int .i64 ch) 10) qE (hr:=λw=>by have hx9:=HZ.out;go_simp)) ?_;refine Rc (mv (qA 0 12)) ?_;exact rn0
 intro v W2 S hH;simp only[lxE,Nat.reduceAdd];rw[show v 1=.bool true from hH 1 dcx];clear hH;go_upto_region 3 with fail;refine rgt S 1 [some 6] [iV 1] ?_ ?_
 ·refine Rc zaf ?_;exact rn0
 intro v W3 S hH;simp only[lxE];rw[show v 0=.int .i64 1 from hH 0 dcx];clear hH;go_wp2_with fail;exact zD (v:=.int .i64 1) (by simp[results,results44,go_sem]) rfl (⟨_,rfl,S.ext,rfl⟩)
theorem tDen1_1{P:Prop}(h:P:=by
  refine zF ?_;go_wp2_with fail;exact zD (v:=.int .i64 res) (by simp[results,results44,go_sem]) rfl (⟨_,rfl,S.ext,HRES.out▸rfl⟩)
  ):P:=h
theorem dlocal_1{k1 p k:Nat}{z ch:Int}{x:Value}{w:World}(hx:IsI k1 z x w)(HK:Hid (k1<=33554432))(HSG:Hid (Sg w))(HP:Hid (-9223372036854775808<=(p:Int)/\(p:Int)<=9223372036854775807/\0<p/\p<=4611686018427387904))(HCH:Hid (kr z p=ch))(HZ:Hid ((ch==0)=false))(HO:Hid ((ch==1)=true))(res:Int)(HR:Hid (IntKind.i64.wrap ((k:Int)+1)=res))(rs:Int)(HRES:Hid (res=rs)):Calls prog 44 #[x,.int .i64 (p:Int),.int .i64 (k:Int)] w (Ret w (iV (rs))):=by
 obtain⟨s1,a1,n1,c1,W,rfl,hW,S⟩:=en1 hx;go_enter func44,ntmps44;go_upto_region 1 with fail;rw[<-hW];clear hW;refine rg 4 [some 7,some 8,some 9,some 10] [IsI k1 z,iV (p:Int),IsI 2 ((p:Int)),iV ch] [] 0 ?_ ?_
 ·refine Rc jp ?_;refine Rc (mv (qD 1)) ?_;refine Rc ya ?_;refine Rc jd ?_;exact rn0
 intro v W1 e1 hH _;replace S:=S.mono e1;simp only[lxE,Nat.reduceAdd];rw[show v 3=.int .i64 ch from hH 3 dcx];clear hH e1;refine zO za ?_ _;go_upto_region 2 with fail;refine rgt S 2 [some 12,some 11] [IsV (.bool false),IsV (.bool false)] ?_ ?_
 ·refine Rc zc1 ?_;refine Rc (mv (qA 0 12)) ?_;exact rn0
 intro v W2 S hH;simp only[lxE,Nat.reduceAdd];rw[show v 1=.bool false from hH 1 dcx];clear hH;go_upto_region 4 with fail;refine rgt S 2 [some 14,some 13] [IsV (.bool true),IsV (.bool true)] ?_ ?_
 ·refine Rc (bn (r:=.bool true) (qD (x:=.int .i64 ch) 10) qE (hr:=λw=>by have hx9:=HO.out;go_simp)) ?_;refine Rc (mv (qA 0 14)) ?_;exact rn0
 intro v W4 S hH;simp only[lxE,Nat.reduceAdd];rw[show v 1=.bool true from hH 1 dcx];clear hH;go_upto_region 5 with fail;refine rgs 3 [some 15,some 16,some 6] [iV (k:Int),iV res,iV res] [] ?_ ?_
 ·refine Rc zcl ?_;refine Rc (bn (r:=.int .i64 res) (qC 0 15) qE (hr:=λw=>by have hx9:=HR.out;go_simp)) ?_;refine Rc (mv (qA 1 16)) ?_;exact rn0
 intro v W5 e1 hH _;replace S:=S.mono e1;simp only[lxE,Nat.reduceAdd];rw[show v 2=.int .i64 res from hH 2 dcx];clear hH e1;exact tDen1_1
theorem dlocal_2{k1 p k:Nat}{z ch:Int}{x:Value}{w:World}(hx:IsI k1 z x w)(HK:Hid (k1<=33554432))(HSG:Hid (Sg w))(HP:Hid (-9223372036854775808<=(p:Int)/\(p:Int)<=9223372036854775807/\0<p/\p<=4611686018427387904))(HCH:Hid (kr z p=ch))(HZ:Hid ((ch==0)=false))(HO:Hid ((ch==1)=false))(m2 res:Int)(HM:Hid ((k:Int)%2=m2/\(k:Int).tmod 2=m2))(HR:Hid (IntKind.i64.wrap (1-m2)=res))(rs:Int)(HRES:Hid (res=rs)):Calls prog 44 #[x,.int .i64 (p:Int),.int .i64 (k:Int)] w (Ret w (iV (rs))):=by
 obtain⟨s1,a1,n1,c1,W,rfl,hW,S⟩:=en1 hx;go_enter func44,ntmps44;go_upto_region 1 with fail;rw[<-hW];clear hW;refine rg 4 [some 7,some 8,some 9,some 10] [IsI k1 z,iV (p:Int),IsI 2 ((p:Int)),iV ch] [] 0 ?_ ?_
 ·refine Rc jp ?_;refine Rc (mv (qD 1)) ?_;refine Rc ya ?_;refine Rc jd ?_;exact rn0
 intro v W1 e1 hH _;replace S:=S.mono e1;simp only[lxE,Nat.reduceAdd];rw[show v 3=.int .i64 ch from hH 3 dcx];clear hH e1;refine zO za ?_ _;go_upto_region 2 with fail;refine rgt S 2 [some 12,some 11] [IsV (.bool false),IsV (.bool false)] ?_ ?_
 ·refine Rc zc1 ?_;refine Rc (mv (qA 0 12)) ?_;exact rn0
 intro v W2 S hH;simp only[lxE,Nat.reduceAdd];rw[show v 1=.bool false from hH 1 dcx];clear hH;go_upto_region 4 with fail;refine rgt S 2 [some 14,some 13] [IsV (.bool false),IsV (.bool false)] ?_ ?_
 ·refine Rc (bn (r:=.bool false) (qD (x:=.int .i64 ch) 10) qE (hr:=λw=>by have hx9:=HO.out;go_simp)) ?_;refine Rc (mv (qA 0 14)) ?_;exact rn0
 intro v W4 S hH;simp only[lxE,Nat.reduceAdd];rw[show v 1=.bool false from hH 1 dcx];clear hH;go_upto_region 6 with fail;refine rgs 4 [some 17,some 18,some 19,some 6] [iV (k:Int),iV m2,iV res,iV res] [] ?_ ?_
 ·refine Rc zcl ?_;refine Rc (bn (r:=.int .i64 m2) (qC 0 17) qE (hr:=λw=>by have hx9:=HM.out.1;have hx8:=HM.out.2;go_simp)) ?_;refine Rc (bn (r:=.int .i64 res) qE (qC 1 18) (hr:=λw=>by have hx9:=HR.out;go_simp)) ?_;refine Rc (mv (qA 2 19)) ?_;exact rn0
 intro v W6 e1 hH _;replace S:=S.mono e1;simp only[lxE,Nat.reduceAdd];rw[show v 3=.int .i64 res from hH 3 dcx];clear hH e1;exact tDen1_1
theorem dlocal_f{k1 p k:Nat}{z:Int}{x:Value}{w:World}(hx:IsI k1 z x w)(l1:k1<=33554432)(hs:Sg w)(hp:0<p/\p<=1048576)(hk:k<=1048576):Calls prog 44 #[x,.int .i64 (p:Int),.int .i64 (k:Int)] w (Ret w (iV (qV (kr z) p k))):=by
 have HP:=hid (show -9223372036854775808<=(p:Int)/\(p:Int)<=9223372036854775807/\0<p/\p<=4611686018427387904 by omega);unfold qV;by_cases h0:kr z p=0
 ·rw[if_pos h0];exact dlocal_0 hx (hid l1) (hid hs) HP (hid rfl) (hid (by rw[h0];rfl))
 ·rw[if_neg h0];by_cases h1:kr z p=1
  ·rw[if_pos h1];exact dlocal_1 hx (hid l1) (hid hs) HP (hid rfl) (hid (by rw[zH];exact h0)) (hid (by rw[h1];rfl)) _ (hid rfl) _ (hid zo)
  ·rw[if_neg h1];exact dlocal_2 hx (hid l1) (hid hs) HP (hid rfl) (hid (by rw[zH];exact h0)) (hid (by rw[zH];exact h1)) _ _ (hid ⟨rfl,zG zb⟩) (hid rfl) _ (hid zo)
end Go.Proofs.YtknffgdbdadpcaaGreatDoor
