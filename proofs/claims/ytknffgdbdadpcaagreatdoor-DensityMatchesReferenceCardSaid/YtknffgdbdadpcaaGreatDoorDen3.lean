/-
 Package density: unsuitable, at a discriminant. (Printed by wip/gen/den3.py.)
-/
import Derived.Test.YtknffgdbdadpcaaGreatDoorDen2
namespace Go.Proofs.YtknffgdbdadpcaaGreatDoor
open Go Go.RowKit
open Go.Proofs.Tryz
theorem zei{P:Prop}(h:P:=by exact cl2 (en func52) (qA (fP:=IsI k2 z) 0 19) (qA (fP:=IsI 2 1048576) 1 20) (λx0 x1 w' hE d0 d1=>zC (jB d0 d1 jo dcx) λ_ _ h=>h.int HCB.out)):P:=h
theorem zet{P:Prop}(h:P:=by exact cl2 (en func50) (qA (fP:=IsI 2 (((cdB n L:Nat):Int))) 0 29) (qA (fP:=IsI k2 z) 1 30) (λx0 x1 w' hE d0 d1=>zC (Gcd_f d0 d1 dcx jo) λ_ _ h=>h.eqz HGG.out)):P:=h
theorem zew{P:Prop}(h:P:=by exact cl2 (en func52) (qA (fP:=IsI (max 2 k2) ((gg:Int))) 2 31) (qA (fP:=IsI 2 1) 3 32) (λx0 x1 w' hE d0 d1=>zC (jB d0 d1 jo dcx) λ_ _ h=>h.int HCG.out)):P:=h
theorem jz{P:Prop}(h:P:=by exact cl1 (en func84) (qA (fP:=IsI k2 z) 0 15) (λx0 w' hE d0=>zC (jA d0) λ_ _ h=>h.int (HSG.out))):P:=h
theorem yi{P:Prop}(h:P:=by exact cl1 (en func61) (qA (fP:=IsI k1 (-(n:Int))) 0 9) (λx0 w' hE d0=>jN d0 HK.out.1 HNN.out)):P:=h
theorem xf{P:Prop}(h:P:=by exact cl1 (en func41) qE (λx0 w' hE d0=>by{obtain rfl:x0=.int .i64 1048576:=d0;exact xT _ 1048576 dcx dcx})):P:=h
theorem za9{P:Prop}(h:P:=by exact bn (r:=.bool false) (qC 1 16) qE (hr:=λw=>by have hx9:=HSB.out;go_simp)):P:=h
theorem zbg{P:Prop}(h:P:=by simp[results,results39,go_sem]):P:=h
theorem zb8{P:Prop}(h:P:=by exact cl1 (en func29) (qA (fP:=IsI k1 (-(n:Int))) 0 24) (λx0 w' hE d0=>Conductor_f d0 HK.out.1 HNN.out HL.out)):P:=h
set_option maxRecDepth 100000
set_option maxHeartbeats 4000000
theorem tDen3_1{P:Prop}(h:P:=by
  replace S:=S.mono e1;simp only[lxE];rw[show v 0=.int .i64 1 from hH 0 dcx];clear hH e1;refine zF ?_;go_wp2_with fail;exact zD (v:=.int .i64 1) zbg rfl (⟨_,rfl,S.ext,rfl⟩)
  ):P:=h
theorem uns_n{k1 k2 n:Nat}{z sg:Int}{x y:Value}{w:World}(hx:IsI k1 (-(n:Int)) x w)(hy:IsI k2 z y w)(HK:Hid (k1<=16777216/\k2<=16777216))(HNN:Hid (1<=n/\n<=4194304/\(n%4=0\/n%4=3)))(HSG:Hid (z.sign=sg))(HSB:Hid (decide (sg<=0)=true)):Calls prog 39 #[x,y] w (Ret w (iV 1)):=by
 obtain⟨s1,a1,n1,c1,s2,a2,n2,c2,W,rfl,rfl,hW,S⟩:=en2 hx hy;go_enter func39,ntmps39;go_upto_region 1 with fail;rw[<-hW];clear hW;refine rgt S 3 [some 9,some 10,some 5] [IsI k1 (-(n:Int)),iV 0,iV 0] ?_ ?_
 ·refine Rc zf ?_;refine Rc yi ?_;refine Rc zbo ?_;exact rn0
 intro v W1 S hH;simp only[lxE,Nat.reduceAdd];rw[show v 2=.int .i64 0 from hH 2 dcx];clear hH;go_upto_region 2 with fail;refine rgt S 2 [some 11,some 12] [iV 0,IsV (.bool false)] ?_ ?_
 ·refine Rc ja ?_;refine Rc jc ?_;exact rn0
 intro v W2 S hH;simp only[lxE,Nat.reduceAdd];rw[show v 1=.bool false from hH 1 dcx];clear hH;go_upto_region 4 with fail;refine rgt S 4 [some 15,some 16,some 17,some 14] [IsI k2 z,iV sg,IsV (.bool true),IsV (.bool true)] ?_ ?_
 ·refine Rc zg ?_;refine Rc jz ?_;refine Rc (bn (r:=.bool true) (qC 1 16) qE (hr:=λw=>by have hx9:=HSB.out;go_simp)) ?_;refine Rc (mv (qA 2 17)) ?_;exact rn0
 intro v W4 S hH;simp only[lxE,Nat.reduceAdd];rw[show v 3=.bool true from hH 3 dcx];clear hH;go_upto_region 5 with fail;refine rgs 1 [some 4] [iV 1] [] ?_ ?_
 ·refine Rc zaf ?_;exact rn0
 intro v W5 e1 hH _;exact tDen3_1
theorem uns_b{k1 k2 n:Nat}{z sg:Int}{x y:Value}{w:World}(hx:IsI k1 (-(n:Int)) x w)(hy:IsI k2 z y w)(HK:Hid (k1<=16777216/\k2<=16777216))(HNN:Hid (1<=n/\n<=4194304/\(n%4=0\/n%4=3)))(HSG:Hid (z.sign=sg))(HSB:Hid (decide (sg<=0)=false)){cb:Int}(HCB:Hid (qK z 1048576=cb))(HCB1:Hid (decide (0<cb)=true)):Calls prog 39 #[x,y] w (Ret w (iV 2)):=by
 obtain⟨s1,a1,n1,c1,s2,a2,n2,c2,W,rfl,rfl,hW,S⟩:=en2 hx hy;go_enter func39,ntmps39;go_upto_region 1 with fail;rw[<-hW];clear hW;refine rgt S 3 [some 9,some 10,some 5] [IsI k1 (-(n:Int)),iV 0,iV 0] ?_ ?_
 ·refine Rc zf ?_;refine Rc yi ?_;refine Rc zbo ?_;exact rn0
 intro v W1 S hH;simp only[lxE,Nat.reduceAdd];rw[show v 2=.int .i64 0 from hH 2 dcx];clear hH;go_upto_region 2 with fail;refine rgt S 2 [some 11,some 12] [iV 0,IsV (.bool false)] ?_ ?_
 ·refine Rc ja ?_;refine Rc jc ?_;exact rn0
 intro v W2 S hH;simp only[lxE,Nat.reduceAdd];rw[show v 1=.bool false from hH 1 dcx];clear hH;go_upto_region 4 with fail;refine rgt S 4 [some 15,some 16,some 17,some 14] [IsI k2 z,iV sg,IsV (.bool false),IsV (.bool false)] ?_ ?_
 ·refine Rc zg ?_;refine Rc jz ?_;refine Rc za9 ?_;refine Rc (mv (qA 2 17)) ?_;exact rn0
 intro v W4 S hH;simp only[lxE,Nat.reduceAdd];rw[show v 3=.bool false from hH 3 dcx];clear hH;go_upto_region 6 with fail;refine rg 5 [some 19,some 20,some 21,some 22,some 18] [IsI k2 z,IsI 2 1048576,iV cb,IsV (.bool true),IsV (.bool true)] [] 0 ?_ ?_
 ·refine Rc zg ?_;refine Rc xf ?_;refine Rc zei ?_;refine Rc (bn (r:=.bool true) (qC 2 21) qE (hr:=λw=>by have hx9:=HCB1.out;go_simp)) ?_;refine Rc (mv (qA 3 22)) ?_;exact rn0
 intro v W6 e1 hH _;replace S:=S.mono e1;simp only[lxE,Nat.reduceAdd];rw[show v 4=.bool true from hH 4 dcx];clear hH e1;refine zO za ?_ _;go_upto_region 7 with fail;refine rgt S 1 [some 4] [iV 2] ?_ ?_
 ·refine Rc zaf ?_;exact rn0
 intro v W7 S hH;simp only[lxE];rw[show v 0=.int .i64 2 from hH 0 dcx];clear hH;go_wp2_with fail;exact zD (v:=.int .i64 2) zbg rfl (⟨_,rfl,S.ext,rfl⟩)
theorem uns_g{k1 k2 n L:Nat}{z sg:Int}{x y:Value}{w:World}(hx:IsI k1 (-(n:Int)) x w)(hy:IsI k2 z y w)(HK:Hid (k1<=16777216/\k2<=16777216))(HNN:Hid (1<=n/\n<=4194304/\(n%4=0\/n%4=3)))(HL:Hid (L*L<=n/\n<(L+1)*(L+1)))(HSG:Hid (z.sign=sg))(HSB:Hid (decide (sg<=0)=false)){cb:Int}(HCB:Hid (qK z 1048576=cb))(HCB1:Hid (decide (0<cb)=false)){cg:Int}{gg:Nat}(HGG:Hid (((Int.gcd ((cdB n L:Nat):Int) z:Nat):Int)=(gg:Int)))(HCG:Hid (qK (gg:Int) 1=cg))(HCG1:Hid ((cg !=0)=true)):Calls prog 39 #[x,y] w (Ret w (iV 1)):=by
 obtain⟨s1,a1,n1,c1,s2,a2,n2,c2,W,rfl,rfl,hW,S⟩:=en2 hx hy;go_enter func39,ntmps39;go_upto_region 1 with fail;rw[<-hW];clear hW;refine rgt S 3 [some 9,some 10,some 5] [IsI k1 (-(n:Int)),iV 0,iV 0] ?_ ?_
 ·refine Rc zf ?_;refine Rc yi ?_;refine Rc zbo ?_;exact rn0
 intro v W1 S hH;simp only[lxE,Nat.reduceAdd];rw[show v 2=.int .i64 0 from hH 2 dcx];clear hH;go_upto_region 2 with fail;refine rgt S 2 [some 11,some 12] [iV 0,IsV (.bool false)] ?_ ?_
 ·refine Rc ja ?_;refine Rc jc ?_;exact rn0
 intro v W2 S hH;simp only[lxE,Nat.reduceAdd];rw[show v 1=.bool false from hH 1 dcx];clear hH;go_upto_region 4 with fail;refine rgt S 4 [some 15,some 16,some 17,some 14] [IsI k2 z,iV sg,IsV (.bool false),IsV (.bool false)] ?_ ?_
 ·refine Rc zg ?_;refine Rc jz ?_;refine Rc za9 ?_;refine Rc (mv (qA 2 17)) ?_;exact rn0
 intro v W4 S hH;simp only[lxE,Nat.reduceAdd];rw[show v 3=.bool false from hH 3 dcx];clear hH;go_upto_region 6 with fail;refine rg 5 [some 19,some 20,some 21,some 22,some 18] [IsI k2 z,IsI 2 1048576,iV cb,IsV (.bool false),IsV (.bool false)] [] 0 ?_ ?_
 ·refine Rc zg ?_;refine Rc xf ?_;refine Rc zei ?_;refine Rc (bn (r:=.bool false) (qC 2 21) qE (hr:=λw=>by have hx9:=HCB1.out;go_simp)) ?_;refine Rc (mv (qA 3 22)) ?_;exact rn0
 intro v W6 e1 hH _;replace S:=S.mono e1;simp only[lxE,Nat.reduceAdd];rw[show v 4=.bool false from hH 4 dcx];clear hH e1;refine zO za ?_ _;go_upto_region 8 with fail;have hl:=hid S.lt;have hw:=S.ext.size;refine rgs 8 [some 24,some 25,some 23,some 26,some 27,some 28,some 6,some 7] [IsI k1 (-(n:Int)),IsT3 (IsI 2 (cdD n L)) (IsI 2 (((cdB n L:Nat):Int))) (iV 0),IsT3 (IsI 2 (cdD n L)) (IsI 2 (((cdB n L:Nat):Int))) (iV 0),IsI 2 (cdD n L),IsI 2 (((cdB n L:Nat):Int)),iV 0,IsBo W6 1,IsBo W6 1] [6,7] ?_ ?_
 ·refine Rc zf ?_;refine Rc zb8 ?_;refine Rc (mv (qA 1 25)) ?_;refine Rc (ex (qC 2 23) t30) ?_;refine Rc (ex (qC 2 23) t31) ?_;refine Rc (ex (qC 2 23) t32) ?_;refine Rc zdi ?_;refine Rc zdi ?_;exact rn0
 intro v W8 e1 hH hne;replace S:=S.mono e1;have h26:=hH 3 dcx;have h27:=hH 4 dcx;have v5:v 5=.int .i64 0:=hH 5 dcx;obtain⟨g6,v6,q2,b1,_⟩:=(hH 6 dcx:IsBo W6 1 (v 6) W8);replace S:=S.addN 1 (ApartO.old hl.out q2) (zN hw q2) b1;obtain⟨g7,v7,q4,b3,_⟩:=(hH 7 dcx:IsBo W6 1 (v 7) W8);replace S:=S.addN 1 (ApartO.cons (λh=>hne 6 7 dcx dcx dcx dcx dcx zcg) (ApartO.old hl.out q4)) (zN hw q4) b3;simp only[newF,List.cons_append,List.nil_append]at S;simp only[lxE,Nat.reduceAdd];rw[v5,v6,v7];clear b1 b3 hl hw hne v5 v6 v7 hH e1
 try simp only[dxE]
 (with_reducible refine stL ?_ zfe);intro KK hKK;refine stI S 1 (g6) 0 h26 qJ (λW8a S2 G2=>hKK _ _ ?_) rfl
 replace h27:=(IsI.gstb _ _) _ _ _ G2 h27;replace S:=S2;clear S2 G2 hKK KK h26;simp only[u0x,u1x]at S
 try simp only[dxE]
 (with_reducible refine stL ?_ zfe);intro KK hKK;refine stI S 0 (g7) 0 h27 qJ (λW8b S2 G2=>hKK _ _ ?_) rfl
 replace S:=S2;clear S2 G2 hKK KK h27;simp only[u0x]at S;refine zT λK hK=>?_;go_simp;refine hK _ _ ?_;clear hK K
 refine zF ?_;go_upto_region 9 with fail;refine rgt S 6 [some 29,some 30,some 31,some 32,some 33,some 34] [IsI 2 (((cdB n L:Nat):Int)),IsI k2 z,IsI (max 2 k2) ((gg:Int)),IsI 2 1,iV cg,IsV (.bool true)] ?_ ?_
 ·refine Rc zbx ?_;refine Rc jh ?_;refine Rc zet ?_;refine Rc zm ?_;refine Rc zew ?_;refine Rc (bn (r:=.bool true) (qC 4 33) qE (hr:=λw=>by have hx9:=HCG1.out;go_simp)) ?_;exact rn0
 intro v W9 S hH;simp only[lxE,Nat.reduceAdd];rw[show v 5=.bool true from hH 5 dcx];clear hH;go_upto_region 10 with fail;refine rgs 1 [some 4] [iV 1] [] ?_ ?_
 ·refine Rc zaf ?_;exact rn0
 intro v W10 e1 hH _;exact tDen3_1
theorem uns_k{k1 k2 n L:Nat}{z sg:Int}{x y:Value}{w:World}(hx:IsI k1 (-(n:Int)) x w)(hy:IsI k2 z y w)(HK:Hid (k1<=16777216/\k2<=16777216))(HNN:Hid (1<=n/\n<=4194304/\(n%4=0\/n%4=3)))(HL:Hid (L*L<=n/\n<(L+1)*(L+1)))(HSG:Hid (z.sign=sg))(HSB:Hid (decide (sg<=0)=false)){cb:Int}(HCB:Hid (qK z 1048576=cb))(HCB1:Hid (decide (0<cb)=false)){cg:Int}{gg:Nat}(HGG:Hid (((Int.gcd ((cdB n L:Nat):Int) z:Nat):Int)=(gg:Int)))(HCG:Hid (qK (gg:Int) 1=cg))(HCG1:Hid ((cg !=0)=false)):Calls prog 39 #[x,y] w (Ret w (iV 0)):=by
 obtain⟨s1,a1,n1,c1,s2,a2,n2,c2,W,rfl,rfl,hW,S⟩:=en2 hx hy;go_enter func39,ntmps39;go_upto_region 1 with fail;rw[<-hW];clear hW;refine rgt S 3 [some 9,some 10,some 5] [IsI k1 (-(n:Int)),iV 0,iV 0] ?_ ?_
 ·refine Rc zf ?_;refine Rc yi ?_;refine Rc zbo ?_;exact rn0
 intro v W1 S hH;simp only[lxE,Nat.reduceAdd];rw[show v 2=.int .i64 0 from hH 2 dcx];clear hH;go_upto_region 2 with fail;refine rgt S 2 [some 11,some 12] [iV 0,IsV (.bool false)] ?_ ?_
 ·refine Rc ja ?_;refine Rc jc ?_;exact rn0
 intro v W2 S hH;simp only[lxE,Nat.reduceAdd];rw[show v 1=.bool false from hH 1 dcx];clear hH;go_upto_region 4 with fail;refine rgt S 4 [some 15,some 16,some 17,some 14] [IsI k2 z,iV sg,IsV (.bool false),IsV (.bool false)] ?_ ?_
 ·refine Rc zg ?_;refine Rc jz ?_;refine Rc za9 ?_;refine Rc (mv (qA 2 17)) ?_;exact rn0
 intro v W4 S hH;simp only[lxE,Nat.reduceAdd];rw[show v 3=.bool false from hH 3 dcx];clear hH;go_upto_region 6 with fail;refine rg 5 [some 19,some 20,some 21,some 22,some 18] [IsI k2 z,IsI 2 1048576,iV cb,IsV (.bool false),IsV (.bool false)] [] 0 ?_ ?_
 ·refine Rc zg ?_;refine Rc xf ?_;refine Rc zei ?_;refine Rc (bn (r:=.bool false) (qC 2 21) qE (hr:=λw=>by have hx9:=HCB1.out;go_simp)) ?_;refine Rc (mv (qA 3 22)) ?_;exact rn0
 intro v W6 e1 hH _;replace S:=S.mono e1;simp only[lxE,Nat.reduceAdd];rw[show v 4=.bool false from hH 4 dcx];clear hH e1;refine zO za ?_ _;go_upto_region 8 with fail;have hl:=hid S.lt;have hw:=S.ext.size;refine rgs 8 [some 24,some 25,some 23,some 26,some 27,some 28,some 6,some 7] [IsI k1 (-(n:Int)),IsT3 (IsI 2 (cdD n L)) (IsI 2 (((cdB n L:Nat):Int))) (iV 0),IsT3 (IsI 2 (cdD n L)) (IsI 2 (((cdB n L:Nat):Int))) (iV 0),IsI 2 (cdD n L),IsI 2 (((cdB n L:Nat):Int)),iV 0,IsBo W6 1,IsBo W6 1] [6,7] ?_ ?_
 ·refine Rc zf ?_;refine Rc zb8 ?_;refine Rc (mv (qA 1 25)) ?_;refine Rc (ex (qC 2 23) t30) ?_;refine Rc (ex (qC 2 23) t31) ?_;refine Rc (ex (qC 2 23) t32) ?_;refine Rc zdi ?_;refine Rc zdi ?_;exact rn0
 intro v W8 e1 hH hne;replace S:=S.mono e1;have h26:=hH 3 dcx;have h27:=hH 4 dcx;have v5:v 5=.int .i64 0:=hH 5 dcx;obtain⟨g6,v6,q2,b1,_⟩:=(hH 6 dcx:IsBo W6 1 (v 6) W8);replace S:=S.addN 1 (ApartO.old hl.out q2) (zN hw q2) b1;obtain⟨g7,v7,q4,b3,_⟩:=(hH 7 dcx:IsBo W6 1 (v 7) W8);replace S:=S.addN 1 (ApartO.cons (λh=>hne 6 7 dcx dcx dcx dcx dcx zcg) (ApartO.old hl.out q4)) (zN hw q4) b3;simp only[newF,List.cons_append,List.nil_append]at S;simp only[lxE,Nat.reduceAdd];rw[v5,v6,v7];clear b1 b3 hl hw hne v5 v6 v7 hH e1
 try simp only[dxE]
 (with_reducible refine stL ?_ zfe);intro KK hKK;refine stI S 1 (g6) 0 h26 qJ (λW8a S2 G2=>hKK _ _ ?_) rfl
 replace h27:=(IsI.gstb _ _) _ _ _ G2 h27;replace S:=S2;clear S2 G2 hKK KK h26;simp only[u0x,u1x]at S
 try simp only[dxE]
 (with_reducible refine stL ?_ zfe);intro KK hKK;refine stI S 0 (g7) 0 h27 qJ (λW8b S2 G2=>hKK _ _ ?_) rfl
 replace S:=S2;clear S2 G2 hKK KK h27;simp only[u0x]at S;refine zT λK hK=>?_;go_simp;refine hK _ _ ?_;clear hK K
 refine zF ?_;go_upto_region 9 with fail;refine rgt S 6 [some 29,some 30,some 31,some 32,some 33,some 34] [IsI 2 (((cdB n L:Nat):Int)),IsI k2 z,IsI (max 2 k2) ((gg:Int)),IsI 2 1,iV cg,IsV (.bool false)] ?_ ?_
 ·refine Rc zbx ?_;refine Rc jh ?_;refine Rc zet ?_;refine Rc zm ?_;refine Rc zew ?_;refine Rc (bn (r:=.bool false) (qC 4 33) qE (hr:=λw=>by have hx9:=HCG1.out;go_simp)) ?_;exact rn0
 intro v W9 S hH;simp only[lxE,Nat.reduceAdd];rw[show v 5=.bool false from hH 5 dcx];clear hH;go_upto_region 11 with fail;refine rgt S 1 [some 4] [iV 0] ?_ ?_
 ·refine Rc zaf ?_;exact rn0
 intro v W11 S hH;simp only[lxE];rw[show v 0=.int .i64 0 from hH 0 dcx];clear hH;go_wp2_with fail;exact zD (v:=.int .i64 0) zbg rfl (⟨_,rfl,S.ext,rfl⟩)
theorem jC{k1 k2 n L:Nat}{z:Int}{x y:Value}{w:World}(hx:IsI k1 (-(n:Int)) x w)(hy:IsI k2 z y w)(l1:k1<=16777216)(l2:k2<=16777216)(hn:1<=n/\n<=4194304/\(n%4=0\/n%4=3))(hL:L*L<=n/\n<(L+1)*(L+1)):
  Calls prog 39 #[x,y] w (Ret w (iV (unsE (cdB n L) z))):=by
 have HK:=hid (zJ l1 l2);unfold unsE;by_cases h1:z<=0
 ·rw[if_pos h1];refine uns_n hx hy HK (hid hn) (hid rfl) (hid (decide_eq_true ?_));rcases Int.lt_or_eq_of_le h1 with h|h
  ·rw[Int.sign_eq_neg_one_of_neg h];decide
  ·rw[h];decide
 rw[if_neg h1];have hs:z.sign=1:=Int.sign_eq_one_of_pos zb;have hsb:decide ((1:Int)<=0)=false:=zdp
 by_cases h2:1048576<z
 ·rw[if_pos h2];exact uns_b hx hy HK (hid hn) (hid hs) (hid hsb) (hid rfl) (hid (by rw[jD h2];decide))
 rw[if_neg h2]
 have hcb:decide (0<qK z 1048576)=false:=by
  unfold qK
  split
  ·decide
  ·first
   |decide
   | (rw[if_neg (by omega)];decide)
 by_cases h3:Int.gcd ((cdB n L:Nat):Int) z=1
 ·rw[if_pos h3];exact uns_k hx hy HK (hid hn) (hid hL) (hid hs) (hid hsb) (hid rfl) (hid hcb) (hid rfl) (hid rfl) (hid (by rw[h3];decide))
 ·rw[if_neg h3];refine uns_g hx hy HK (hid hn) (hid hL) (hid hs) (hid hsb) (hid rfl) (hid hcb) (hid rfl) (hid rfl) (hid ?_);rw[bne_iff_ne];unfold qK
  split
  ·decide
  ·split
   ·decide
   ·exact absurd (by omega:Int.gcd ((cdB n L:Nat):Int) z=1) h3
end Go.Proofs.YtknffgdbdadpcaaGreatDoor
