/-
 Reference of package density: Refused, Units, at a discriminant. (Printed by wip/gen/den7.py.)
-/
import Derived.Test.YtknffgdbdadpcaaGreatDoorDen6
namespace Go.Proofs.YtknffgdbdadpcaaGreatDoor
open Go Go.RowKit
open Go.Proofs.Tryz
theorem zeh{P:Prop}(h:P:=by exact cl2 (en func31) (qA (fP:=IsI k2 z) 0 17) (qA (fP:=IsI 2 1048576) 1 18) (λx0 x1 w' hE d0 d1=>zC (jE d0 d1 jo dcx) λ_ _ h=>h.int HCB.out)):P:=h
theorem zer{P:Prop}(h:P:=by exact cl2 (en func66) (qA (fP:=IsI 2 (((cdB n L:Nat):Int))) 0 27) (qA (fP:=IsI k2 z) 1 28) (λx0 x1 w' hE d0 d1=>zC (RGcd_f d0 d1 dcx jo) λ_ _ h=>h.eqz HGG.out)):P:=h
theorem ze7{P:Prop}(h:P:=by exact cl2 (en func26) (qA (fP:=IsI k1 z) 0 3) (qA (fP:=IsI 2 ((-3))) 1 4) (λx0 x1 w' hE d0 d1=>Same_n d0 d1 H3.out zl)):P:=h
theorem jv{P:Prop}(h:P:=by exact bn (r:=.bool false) (qC 1 15) qE (hr:=λw=>by have hx9:=HSB.out;go_simp)):P:=h
theorem jx{P:Prop}(h:P:=by exact cl1 (en func63) (qA (fP:=IsI k1 (-(n:Int))) 0 9) (λx0 w' hE d0=>rrefused_f d0 HK.out.1 HNN.out)):P:=h
theorem yc{P:Prop}(h:P:=by exact cl1 (en func65) (qA (fP:=IsI k2 z) 0 14) (λx0 w' hE d0=>zC (xN d0) λ_ _ h=>h.int HSG.out)):P:=h
theorem xe{P:Prop}(h:P:=by exact cl1 (en func22) qE (λx0 w' hE d0=>by{obtain rfl:x0=.int .i64 1048576:=d0;exact qL _ 1048576 dcx dcx})):P:=h
theorem xm{P:Prop}(h:P:=by exact cl1 (en func22) qE (λx0 w' hE d0=>by{obtain rfl:x0=.int .i64 (-3):=d0;exact qL _ ((-3)) dcx dcx})):P:=h
theorem zb4{P:Prop}(h:P:=by exact cl1 (en func64) (qA (fP:=IsI k1 (-(n:Int))) 0 22) (λx0 w' hE d0=>rConductor_f d0 HK.out.1 HNN.out HL.out)):P:=h
theorem zb6{P:Prop}(h:P:=by simp[results,results23,go_sem]):P:=h
theorem zce{P:Prop}(h:P:=by exact cl1 (en func22) qE (λx0 w' hE d0=>by{obtain rfl:x0=.int .i64 (-4):=d0;exact qL _ ((-4)) dcx dcx})):P:=h
set_option maxRecDepth 100000
set_option maxHeartbeats 4000000
theorem tDen7_1{P:Prop}(h:P:=by
  replace S:=S.mono e1;simp only[lxE];rw[show v 0=.int .i64 1 from hH 0 dcx];clear hH e1;refine zF ?_;go_wp2_with fail;exact zD (v:=.int .i64 1) zb6 rfl (⟨_,rfl,S.ext,rfl⟩)
  ):P:=h
theorem ref_n{k1 k2 n:Nat}{z sg:Int}{x y:Value}{w:World}(hx:IsI k1 (-(n:Int)) x w)(hy:IsI k2 z y w)(HK:Hid (k1<=131072/\k2<=131072))(HNN:Hid (1<=n/\n<=4194304/\(n%4=0\/n%4=3)))(HSG:Hid (z.sign=sg))(HSB:Hid (decide (sg<=0)=true)):Calls prog 23 #[x,y] w (Ret w (iV 1)):=by
 obtain⟨s1,a1,n1,c1,s2,a2,n2,c2,W,rfl,rfl,hW,S⟩:=en2 hx hy;go_enter func23,ntmps23;go_upto_region 1 with fail;rw[<-hW];clear hW;refine rgt S 3 [some 9,some 10,some 5] [IsI k1 (-(n:Int)),iV 0,iV 0] ?_ ?_
 ·refine Rc zf ?_;refine Rc jx ?_;refine Rc zbo ?_;exact rn0
 intro v W1 S hH;simp only[lxE,Nat.reduceAdd];rw[show v 2=.int .i64 0 from hH 2 dcx];clear hH;go_upto_region 2 with fail;refine rgt S 2 [some 11,some 12] [iV 0,IsV (.bool false)] ?_ ?_
 ·refine Rc ja ?_;refine Rc jc ?_;exact rn0
 intro v W2 S hH;simp only[lxE,Nat.reduceAdd];rw[show v 1=.bool false from hH 1 dcx];clear hH;go_upto_region 4 with fail;refine rgt S 3 [some 14,some 15,some 16] [IsI k2 z,iV sg,IsV (.bool true)] ?_ ?_
 ·refine Rc zg ?_;refine Rc yc ?_;refine Rc (bn (r:=.bool true) (qC 1 15) qE (hr:=λw=>by have hx9:=HSB.out;go_simp)) ?_;exact rn0
 intro v W4 S hH;simp only[lxE,Nat.reduceAdd];rw[show v 2=.bool true from hH 2 dcx];clear hH;go_upto_region 5 with fail;refine rgs 1 [some 4] [iV 1] [] ?_ ?_
 ·refine Rc zaf ?_;exact rn0
 intro v W5 e1 hH _;exact tDen7_1
theorem ref_b{k1 k2 n:Nat}{z sg:Int}{x y:Value}{w:World}(hx:IsI k1 (-(n:Int)) x w)(hy:IsI k2 z y w)(HK:Hid (k1<=131072/\k2<=131072))(HNN:Hid (1<=n/\n<=4194304/\(n%4=0\/n%4=3)))(HSG:Hid (z.sign=sg))(HSB:Hid (decide (sg<=0)=false)){cb:Int}(HCB:Hid (qK z 1048576=cb))(HCB1:Hid (decide (0<cb)=true)):Calls prog 23 #[x,y] w (Ret w (iV 2)):=by
 obtain⟨s1,a1,n1,c1,s2,a2,n2,c2,W,rfl,rfl,hW,S⟩:=en2 hx hy;go_enter func23,ntmps23;go_upto_region 1 with fail;rw[<-hW];clear hW;refine rgt S 3 [some 9,some 10,some 5] [IsI k1 (-(n:Int)),iV 0,iV 0] ?_ ?_
 ·refine Rc zf ?_;refine Rc jx ?_;refine Rc zbo ?_;exact rn0
 intro v W1 S hH;simp only[lxE,Nat.reduceAdd];rw[show v 2=.int .i64 0 from hH 2 dcx];clear hH;go_upto_region 2 with fail;refine rgt S 2 [some 11,some 12] [iV 0,IsV (.bool false)] ?_ ?_
 ·refine Rc ja ?_;refine Rc jc ?_;exact rn0
 intro v W2 S hH;simp only[lxE,Nat.reduceAdd];rw[show v 1=.bool false from hH 1 dcx];clear hH;go_upto_region 4 with fail;refine rgt S 3 [some 14,some 15,some 16] [IsI k2 z,iV sg,IsV (.bool false)] ?_ ?_
 ·refine Rc zg ?_;refine Rc yc ?_;refine Rc jv ?_;exact rn0
 intro v W4 S hH;simp only[lxE,Nat.reduceAdd];rw[show v 2=.bool false from hH 2 dcx];clear hH;go_upto_region 6 with fail;refine rg 4 [some 17,some 18,some 19,some 20] [IsI k2 z,IsI 2 1048576,iV cb,IsV (.bool true)] [] 0 ?_ ?_
 ·refine Rc zg ?_;refine Rc xe ?_;refine Rc zeh ?_;refine Rc (bn (r:=.bool true) (qC 2 19) qE (hr:=λw=>by have hx9:=HCB1.out;go_simp)) ?_;exact rn0
 intro v W6 e1 hH _;replace S:=S.mono e1;simp only[lxE,Nat.reduceAdd];rw[show v 3=.bool true from hH 3 dcx];clear hH e1;refine zO za ?_ _;go_upto_region 7 with fail;refine rgt S 1 [some 4] [iV 2] ?_ ?_
 ·refine Rc zaf ?_;exact rn0
 intro v W7 S hH;simp only[lxE];rw[show v 0=.int .i64 2 from hH 0 dcx];clear hH;go_wp2_with fail;exact zD (v:=.int .i64 2) zb6 rfl (⟨_,rfl,S.ext,rfl⟩)
theorem ref_g{k1 k2 n L:Nat}{z sg:Int}{x y:Value}{w:World}(hx:IsI k1 (-(n:Int)) x w)(hy:IsI k2 z y w)(HK:Hid (k1<=131072/\k2<=131072))(HNN:Hid (1<=n/\n<=4194304/\(n%4=0\/n%4=3)))(HL:Hid (L*L<=n/\n<(L+1)*(L+1)))(HSG:Hid (z.sign=sg))(HSB:Hid (decide (sg<=0)=false)){cb:Int}(HCB:Hid (qK z 1048576=cb))(HCB1:Hid (decide (0<cb)=false)){gg:Nat}(HGG:Hid (((Int.gcd ((cdB n L:Nat):Int) z:Nat):Int)=(gg:Int)))(HGE:Hid ((gg:Int)≠1)):Calls prog 23 #[x,y] w (Ret w (iV 1)):=by
 obtain⟨s1,a1,n1,c1,s2,a2,n2,c2,W,rfl,rfl,hW,S⟩:=en2 hx hy;go_enter func23,ntmps23;go_upto_region 1 with fail;rw[<-hW];clear hW;refine rgt S 3 [some 9,some 10,some 5] [IsI k1 (-(n:Int)),iV 0,iV 0] ?_ ?_
 ·refine Rc zf ?_;refine Rc jx ?_;refine Rc zbo ?_;exact rn0
 intro v W1 S hH;simp only[lxE,Nat.reduceAdd];rw[show v 2=.int .i64 0 from hH 2 dcx];clear hH;go_upto_region 2 with fail;refine rgt S 2 [some 11,some 12] [iV 0,IsV (.bool false)] ?_ ?_
 ·refine Rc ja ?_;refine Rc jc ?_;exact rn0
 intro v W2 S hH;simp only[lxE,Nat.reduceAdd];rw[show v 1=.bool false from hH 1 dcx];clear hH;go_upto_region 4 with fail;refine rgt S 3 [some 14,some 15,some 16] [IsI k2 z,iV sg,IsV (.bool false)] ?_ ?_
 ·refine Rc zg ?_;refine Rc yc ?_;refine Rc jv ?_;exact rn0
 intro v W4 S hH;simp only[lxE,Nat.reduceAdd];rw[show v 2=.bool false from hH 2 dcx];clear hH;go_upto_region 6 with fail;refine rg 4 [some 17,some 18,some 19,some 20] [IsI k2 z,IsI 2 1048576,iV cb,IsV (.bool false)] [] 0 ?_ ?_
 ·refine Rc zg ?_;refine Rc xe ?_;refine Rc zeh ?_;refine Rc (bn (r:=.bool false) (qC 2 19) qE (hr:=λw=>by have hx9:=HCB1.out;go_simp)) ?_;exact rn0
 intro v W6 e1 hH _;replace S:=S.mono e1;simp only[lxE,Nat.reduceAdd];rw[show v 3=.bool false from hH 3 dcx];clear hH e1;refine zO za ?_ _;go_upto_region 8 with fail;have hl:=hid S.lt;have hw:=S.ext.size;refine rgs 8 [some 22,some 23,some 21,some 24,some 25,some 26,some 6,some 7] [IsI k1 (-(n:Int)),IsT3 (IsI 2 (-((n/(cdB n L*cdB n L):Nat):Int))) (IsI 2 (((cdB n L:Nat):Int))) (iV 0),IsT3 (IsI 2 (-((n/(cdB n L*cdB n L):Nat):Int))) (IsI 2 (((cdB n L:Nat):Int))) (iV 0),IsI 2 (-((n/(cdB n L*cdB n L):Nat):Int)),IsI 2 (((cdB n L:Nat):Int)),iV 0,IsBo W6 1,IsBo W6 1] [6,7] ?_ ?_
 ·refine Rc zf ?_;refine Rc zb4 ?_;refine Rc (mv (qA 1 23)) ?_;refine Rc (ex (qC 2 21) t30) ?_;refine Rc (ex (qC 2 21) t31) ?_;refine Rc (ex (qC 2 21) t32) ?_;refine Rc zdi ?_;refine Rc zdi ?_;exact rn0
 intro v W8 e1 hH hne;replace S:=S.mono e1;have h24:=hH 3 dcx;have h25:=hH 4 dcx;have v5:v 5=.int .i64 0:=hH 5 dcx;obtain⟨g6,v6,q2,b1,_⟩:=(hH 6 dcx:IsBo W6 1 (v 6) W8);replace S:=S.addN 1 (ApartO.old hl.out q2) (zN hw q2) b1;obtain⟨g7,v7,q4,b3,_⟩:=(hH 7 dcx:IsBo W6 1 (v 7) W8);replace S:=S.addN 1 (ApartO.cons (λh=>hne 6 7 dcx dcx dcx dcx dcx zcg) (ApartO.old hl.out q4)) (zN hw q4) b3;simp only[newF,List.cons_append,List.nil_append]at S;simp only[lxE,Nat.reduceAdd];rw[v5,v6,v7];clear b1 b3 hl hw hne v5 v6 v7 hH e1
 try simp only[dxE]
 (with_reducible refine stL ?_ zfe);intro KK hKK;refine stI S 1 (g6) 0 h24 qJ (λW8a S2 G2=>hKK _ _ ?_) rfl
 replace h25:=(IsI.gstb _ _) _ _ _ G2 h25;replace S:=S2;clear S2 G2 hKK KK h24;simp only[u0x,u1x]at S
 try simp only[dxE]
 (with_reducible refine stL ?_ zfe);intro KK hKK;refine stI S 0 (g7) 0 h25 qJ (λW8b S2 G2=>hKK _ _ ?_) rfl
 replace S:=S2;clear S2 G2 hKK KK h25;simp only[u0x]at S;refine zT λK hK=>?_;go_simp;refine hK _ _ ?_;clear hK K
 refine zF ?_;go_upto_region 9 with fail;refine rgt S 6 [some 27,some 28,some 29,some 30,some 31,some 32] [IsI 2 (((cdB n L:Nat):Int)),IsI k2 z,IsI (max 2 k2) ((gg:Int)),IsI 2 1,IsV (.bool false),IsV (.bool true)] ?_ ?_
 ·refine Rc zbx ?_;refine Rc jh ?_;refine Rc zer ?_;refine Rc zn ?_;refine Rc (cl2 (en func26) (qA (fP:=IsI (max 2 k2) ((gg:Int))) 2 29) (qA (fP:=IsI 2 1) 3 30) (λx0 x1 w' hE d0 d1=>Same_n d0 d1 HGE.out jo)) ?_;refine Rc (nt (qC 4 31)) ?_;exact rn0
 intro v W9 S hH;simp only[lxE,Nat.reduceAdd];rw[show v 5=.bool true from hH 5 dcx];clear hH;go_upto_region 10 with fail;refine rgs 1 [some 4] [iV 1] [] ?_ ?_
 ·refine Rc zaf ?_;exact rn0
 intro v W10 e1 hH _;exact tDen7_1
theorem ref_k{k1 k2 n L:Nat}{z sg:Int}{x y:Value}{w:World}(hx:IsI k1 (-(n:Int)) x w)(hy:IsI k2 z y w)(HK:Hid (k1<=131072/\k2<=131072))(HNN:Hid (1<=n/\n<=4194304/\(n%4=0\/n%4=3)))(HL:Hid (L*L<=n/\n<(L+1)*(L+1)))(HSG:Hid (z.sign=sg))(HSB:Hid (decide (sg<=0)=false)){cb:Int}(HCB:Hid (qK z 1048576=cb))(HCB1:Hid (decide (0<cb)=false)){gg:Nat}(HGG:Hid (((Int.gcd ((cdB n L:Nat):Int) z:Nat):Int)=(gg:Int)))(HGE:Hid ((gg:Int)=1)):Calls prog 23 #[x,y] w (Ret w (iV 0)):=by
 obtain⟨s1,a1,n1,c1,s2,a2,n2,c2,W,rfl,rfl,hW,S⟩:=en2 hx hy;go_enter func23,ntmps23;go_upto_region 1 with fail;rw[<-hW];clear hW;refine rgt S 3 [some 9,some 10,some 5] [IsI k1 (-(n:Int)),iV 0,iV 0] ?_ ?_
 ·refine Rc zf ?_;refine Rc jx ?_;refine Rc zbo ?_;exact rn0
 intro v W1 S hH;simp only[lxE,Nat.reduceAdd];rw[show v 2=.int .i64 0 from hH 2 dcx];clear hH;go_upto_region 2 with fail;refine rgt S 2 [some 11,some 12] [iV 0,IsV (.bool false)] ?_ ?_
 ·refine Rc ja ?_;refine Rc jc ?_;exact rn0
 intro v W2 S hH;simp only[lxE,Nat.reduceAdd];rw[show v 1=.bool false from hH 1 dcx];clear hH;go_upto_region 4 with fail;refine rgt S 3 [some 14,some 15,some 16] [IsI k2 z,iV sg,IsV (.bool false)] ?_ ?_
 ·refine Rc zg ?_;refine Rc yc ?_;refine Rc jv ?_;exact rn0
 intro v W4 S hH;simp only[lxE,Nat.reduceAdd];rw[show v 2=.bool false from hH 2 dcx];clear hH;go_upto_region 6 with fail;refine rg 4 [some 17,some 18,some 19,some 20] [IsI k2 z,IsI 2 1048576,iV cb,IsV (.bool false)] [] 0 ?_ ?_
 ·refine Rc zg ?_;refine Rc xe ?_;refine Rc zeh ?_;refine Rc (bn (r:=.bool false) (qC 2 19) qE (hr:=λw=>by have hx9:=HCB1.out;go_simp)) ?_;exact rn0
 intro v W6 e1 hH _;replace S:=S.mono e1;simp only[lxE,Nat.reduceAdd];rw[show v 3=.bool false from hH 3 dcx];clear hH e1;refine zO za ?_ _;go_upto_region 8 with fail;have hl:=hid S.lt;have hw:=S.ext.size;refine rgs 8 [some 22,some 23,some 21,some 24,some 25,some 26,some 6,some 7] [IsI k1 (-(n:Int)),IsT3 (IsI 2 (-((n/(cdB n L*cdB n L):Nat):Int))) (IsI 2 (((cdB n L:Nat):Int))) (iV 0),IsT3 (IsI 2 (-((n/(cdB n L*cdB n L):Nat):Int))) (IsI 2 (((cdB n L:Nat):Int))) (iV 0),IsI 2 (-((n/(cdB n L*cdB n L):Nat):Int)),IsI 2 (((cdB n L:Nat):Int)),iV 0,IsBo W6 1,IsBo W6 1] [6,7] ?_ ?_
 ·refine Rc zf ?_;refine Rc zb4 ?_;refine Rc (mv (qA 1 23)) ?_;refine Rc (ex (qC 2 21) t30) ?_;refine Rc (ex (qC 2 21) t31) ?_;refine Rc (ex (qC 2 21) t32) ?_;refine Rc zdi ?_;refine Rc zdi ?_;exact rn0
 intro v W8 e1 hH hne;replace S:=S.mono e1;have h24:=hH 3 dcx;have h25:=hH 4 dcx;have v5:v 5=.int .i64 0:=hH 5 dcx;obtain⟨g6,v6,q2,b1,_⟩:=(hH 6 dcx:IsBo W6 1 (v 6) W8);replace S:=S.addN 1 (ApartO.old hl.out q2) (zN hw q2) b1;obtain⟨g7,v7,q4,b3,_⟩:=(hH 7 dcx:IsBo W6 1 (v 7) W8);replace S:=S.addN 1 (ApartO.cons (λh=>hne 6 7 dcx dcx dcx dcx dcx zcg) (ApartO.old hl.out q4)) (zN hw q4) b3;simp only[newF,List.cons_append,List.nil_append]at S;simp only[lxE,Nat.reduceAdd];rw[v5,v6,v7];clear b1 b3 hl hw hne v5 v6 v7 hH e1
 try simp only[dxE]
 (with_reducible refine stL ?_ zfe);intro KK hKK;refine stI S 1 (g6) 0 h24 qJ (λW8a S2 G2=>hKK _ _ ?_) rfl
 replace h25:=(IsI.gstb _ _) _ _ _ G2 h25;replace S:=S2;clear S2 G2 hKK KK h24;simp only[u0x,u1x]at S
 try simp only[dxE]
 (with_reducible refine stL ?_ zfe);intro KK hKK;refine stI S 0 (g7) 0 h25 qJ (λW8b S2 G2=>hKK _ _ ?_) rfl
 replace S:=S2;clear S2 G2 hKK KK h25;simp only[u0x]at S;refine zT λK hK=>?_;go_simp;refine hK _ _ ?_;clear hK K
 refine zF ?_;go_upto_region 9 with fail;refine rgt S 6 [some 27,some 28,some 29,some 30,some 31,some 32] [IsI 2 (((cdB n L:Nat):Int)),IsI k2 z,IsI (max 2 k2) ((gg:Int)),IsI 2 1,IsV (.bool true),IsV (.bool false)] ?_ ?_
 ·refine Rc zbx ?_;refine Rc jh ?_;refine Rc zer ?_;refine Rc zn ?_;refine Rc (cl2 (en func26) (qA (fP:=IsI (max 2 k2) ((gg:Int))) 2 29) (qA (fP:=IsI 2 1) 3 30) (λx0 x1 w' hE d0 d1=>Same_t d0 d1 HGE.out jo)) ?_;refine Rc (nt (qC 4 31)) ?_;exact rn0
 intro v W9 S hH;simp only[lxE,Nat.reduceAdd];rw[show v 5=.bool false from hH 5 dcx];clear hH;go_upto_region 11 with fail;refine rgt S 1 [some 4] [iV 0] ?_ ?_
 ·refine Rc zaf ?_;exact rn0
 intro v W11 S hH;simp only[lxE];rw[show v 0=.int .i64 0 from hH 0 dcx];clear hH;go_wp2_with fail;exact zD (v:=.int .i64 0) zb6 rfl (⟨_,rfl,S.ext,rfl⟩)
theorem Refused_f{k1 k2 n L:Nat}{z:Int}{x y:Value}{w:World}(hx:IsI k1 (-(n:Int)) x w)(hy:IsI k2 z y w)(l1:k1<=131072)(l2:k2<=131072)(hn:1<=n/\n<=4194304/\(n%4=0\/n%4=3))(hL:L*L<=n/\n<(L+1)*(L+1)):
  Calls prog 23 #[x,y] w (Ret w (iV (unsE (cdB n L) z))):=by
 have HK:=hid (zJ l1 l2);unfold unsE;by_cases h1:z<=0
 ·rw[if_pos h1];refine ref_n hx hy HK (hid hn) (hid rfl) (hid (decide_eq_true ?_));rcases Int.lt_or_eq_of_le h1 with h|h
  ·rw[Int.sign_eq_neg_one_of_neg h];decide
  ·rw[h];decide
 rw[if_neg h1];have hs:z.sign=1:=Int.sign_eq_one_of_pos zb;have hsb:decide ((1:Int)<=0)=false:=zdp
 by_cases h2:1048576<z
 ·rw[if_pos h2];exact ref_b hx hy HK (hid hn) (hid hs) (hid hsb) (hid rfl) (hid (by rw[jD h2];decide))
 rw[if_neg h2]
 have hcb:decide (0<qK z 1048576)=false:=by
  unfold qK
  split
  ·decide
  ·first
   |decide
   | (rw[if_neg (by omega)];decide)
 by_cases h3:Int.gcd ((cdB n L:Nat):Int) z=1
 ·rw[if_pos h3];exact ref_k hx hy HK (hid hn) (hid hL) (hid hs) (hid hsb) (hid rfl) (hid hcb) (hid rfl) (hid (by rw[h3];rfl))
 ·rw[if_neg h3];exact ref_g hx hy HK (hid hn) (hid hL) (hid hs) (hid hsb) (hid rfl) (hid hcb) (hid rfl) (hid zb)
theorem Units_3{k1:Nat}{z:Int}{x:Value}{w:World}(hx:IsI k1 z x w)(HK:Hid (k1<=131072))(H3:Hid (z= -3)):Calls prog 49 #[x] w (Ret w (iV 6)):=by
 obtain⟨s1,a1,n1,c1,W,rfl,hW,S⟩:=en1 hx;go_enter func49,ntmps49;go_upto_region 1 with fail;rw[<-hW];clear hW;refine rg 3 [some 3,some 4,some 5] [IsI k1 z,IsI 2 ((-3)),IsV (.bool true)] [] 0 ?_ ?_
 ·refine Rc zj ?_;refine Rc xm ?_;refine Rc (cl2 (en func26) (qA (fP:=IsI k1 z) 0 3) (qA (fP:=IsI 2 ((-3))) 1 4) (λx0 x1 w' hE d0 d1=>Same_t d0 d1 H3.out zl)) ?_;exact rn0
 intro v W1 e1 hH _;replace S:=S.mono e1;simp only[lxE,Nat.reduceAdd];rw[show v 2=.bool true from hH 2 dcx];clear hH e1;refine zO za ?_ _;go_upto_region 2 with fail;refine rgt S 1 [some 2] [iV 6] ?_ ?_
 ·refine Rc zaf ?_;exact rn0
 intro v W2 S hH;simp only[lxE];rw[show v 0=.int .i64 6 from hH 0 dcx];clear hH;go_wp2_with fail;exact zD (v:=.int .i64 6) (by simp[results,results49,go_sem]) rfl (⟨_,rfl,S.ext,rfl⟩)
theorem Units_4{k1:Nat}{z:Int}{x:Value}{w:World}(hx:IsI k1 z x w)(HK:Hid (k1<=131072))(H3:Hid (z≠-3))(H4:Hid (z= -4)):Calls prog 49 #[x] w (Ret w (iV 4)):=by
 obtain⟨s1,a1,n1,c1,W,rfl,hW,S⟩:=en1 hx;go_enter func49,ntmps49;go_upto_region 1 with fail;rw[<-hW];clear hW;refine rg 3 [some 3,some 4,some 5] [IsI k1 z,IsI 2 ((-3)),IsV (.bool false)] [] 0 ?_ ?_
 ·refine Rc zj ?_;refine Rc xm ?_;refine Rc ze7 ?_;exact rn0
 intro v W1 e1 hH _;replace S:=S.mono e1;simp only[lxE,Nat.reduceAdd];rw[show v 2=.bool false from hH 2 dcx];clear hH e1;refine zO za ?_ _;go_upto_region 3 with fail;refine rg 3 [some 6,some 7,some 8] [IsI k1 z,IsI 2 ((-4)),IsV (.bool true)] [] 0 ?_ ?_
 ·refine Rc zj ?_;refine Rc zce ?_;refine Rc (cl2 (en func26) (qA (fP:=IsI k1 z) 0 6) (qA (fP:=IsI 2 ((-4))) 1 7) (λx0 x1 w' hE d0 d1=>Same_t d0 d1 H4.out zl)) ?_;exact rn0
 intro v W3 e1 hH _;replace S:=S.mono e1;simp only[lxE,Nat.reduceAdd];rw[show v 2=.bool true from hH 2 dcx];clear hH e1;refine zO za ?_ _;go_upto_region 4 with fail;refine rgt S 1 [some 2] [iV 4] ?_ ?_
 ·refine Rc zaf ?_;exact rn0
 intro v W4 S hH;simp only[lxE];rw[show v 0=.int .i64 4 from hH 0 dcx];clear hH;go_wp2_with fail;exact zD (v:=.int .i64 4) (by simp[results,results49,go_sem]) rfl (⟨_,rfl,S.ext,rfl⟩)
theorem Units_2{k1:Nat}{z:Int}{x:Value}{w:World}(hx:IsI k1 z x w)(HK:Hid (k1<=131072))(H3:Hid (z≠-3))(H4:Hid (z≠-4)):Calls prog 49 #[x] w (Ret w (iV 2)):=by
 obtain⟨s1,a1,n1,c1,W,rfl,hW,S⟩:=en1 hx;go_enter func49,ntmps49;go_upto_region 1 with fail;rw[<-hW];clear hW;refine rg 3 [some 3,some 4,some 5] [IsI k1 z,IsI 2 ((-3)),IsV (.bool false)] [] 0 ?_ ?_
 ·refine Rc zj ?_;refine Rc xm ?_;refine Rc ze7 ?_;exact rn0
 intro v W1 e1 hH _;replace S:=S.mono e1;simp only[lxE,Nat.reduceAdd];rw[show v 2=.bool false from hH 2 dcx];clear hH e1;refine zO za ?_ _;go_upto_region 3 with fail;refine rg 3 [some 6,some 7,some 8] [IsI k1 z,IsI 2 ((-4)),IsV (.bool false)] [] 0 ?_ ?_
 ·refine Rc zj ?_;refine Rc zce ?_;refine Rc (cl2 (en func26) (qA (fP:=IsI k1 z) 0 6) (qA (fP:=IsI 2 ((-4))) 1 7) (λx0 x1 w' hE d0 d1=>Same_n d0 d1 H4.out zl)) ?_;exact rn0
 intro v W3 e1 hH _;replace S:=S.mono e1;simp only[lxE,Nat.reduceAdd];rw[show v 2=.bool false from hH 2 dcx];clear hH e1;refine zO za ?_ _;go_upto_region 5 with fail;refine rgt S 1 [some 2] [iV 2] ?_ ?_
 ·refine Rc zaf ?_;exact rn0
 intro v W5 S hH;simp only[lxE];rw[show v 0=.int .i64 2 from hH 0 dcx];clear hH;go_wp2_with fail;exact zD (v:=.int .i64 2) (by simp[results,results49,go_sem]) rfl (⟨_,rfl,S.ext,rfl⟩)
def xM(z:Int):Int:=if z= -3 then 6 else if z= -4 then 4 else 2
theorem Units_f{k1:Nat}{z:Int}{x:Value}{w:World}(hx:IsI k1 z x w)(l1:k1<=131072):Calls prog 49 #[x] w (Ret w (iV (xM z))):=by
 unfold xM;by_cases h3:z= -3
 ·rw[if_pos h3];exact Units_3 hx (hid l1) (hid h3)
 ·rw[if_neg h3];by_cases h4:z= -4
  ·rw[if_pos h4];exact Units_4 hx (hid l1) (hid h3) (hid h4)
  ·rw[if_neg h4];exact Units_2 hx (hid l1) (hid h3) (hid h4)
end Go.Proofs.YtknffgdbdadpcaaGreatDoor
