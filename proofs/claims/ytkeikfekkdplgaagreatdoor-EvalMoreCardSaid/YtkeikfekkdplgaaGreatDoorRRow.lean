/- Lemmas. -/
import Derived.Test.YtkeikfekkdplgaaGreatDoorBase
import Derived.Test.YtkeikfekkdplgaaGreatDoorReadB
import Derived.Test.YtkeikfekkdplgaaGreatDoorRgm
import Derived.Test.YtkeikfekkdplgaaGreatDoorDivN
namespace Go.Proofs.YtkeikfekkdplgaaGreatDoor
section
open Go Go.RowKit
open Go.Proofs.Tryz
theorem zbq{P:Prop}(h:P:=by rfl):P:=h
theorem jl{P:Prop}(h:P:=by exact ldI S 2 (w.heap.size) 0 (qB 2) qE):P:=h
theorem jr{P:Prop}(h:P:=by have:=HLen.out;rw[qK];omega):P:=h
theorem xu{P:Prop}(h:P:=by exact ldI S 3 (w.heap.size) 0 (qB 2) qE):P:=h
theorem zad{P:Prop}(h:P:=by have:=HS.out;(try simp);(try omega)):P:=h
abbrev jE:=@wpList_nil
set_option maxRecDepth 100000
set_option maxHeartbeats 4000000
theorem rat_num_pos(n d:Int)(hd:0 < d):n / (Int.gcd n d:Int)=(Rat.divInt n d).num:=by
 rw[Rat.num_divInt,Int.sign_eq_one_of_pos hd,Int.one_mul,Int.gcd_comm]
theorem rat_den_pos(n d:Int)(hd:0 < d):d / (Int.gcd n d:Int)=((Rat.divInt n d).den:Int) :=by
 rw[Rat.den_divInt,if_neg (by omega),Int.natCast_ediv,Int.gcd_comm,show(d.natAbs:Int)=d by omega]

abbrev IsRat(K:Nat)(q:Rat):Value ->World ->Prop:=IsQ (IsI K q.num) (IsI K (q.den:Int))
theorem IsRat.mono{K K':Nat}{q:Rat}{x:Value}{w:World}(h:IsRat K q x w)(hk:K <=K'):IsRat K' q x w:=
 let ⟨s,a,n,c,s',a',n',c',h1,h2,h3⟩ :=h;⟨s,a,n,c,s',a',n',c',h1,h2.mono hk,h3.mono hk⟩
theorem quotient_f{k1 k2:Nat}{z1 z2:Int}{x y:Value}{w:World}(hx:IsI k1 z1 x w)(hy:IsI k2 z2 y w)(l1:k1 <=33554432)(l2:k2 <=33554432)(hz:z2 =1):
  Calls prog 176 #[x,y] w (Ret w (IsI k1 (z1 / z2))) :=by
 have HZ:=hid hz
 clear hz
 obtain⟨s1,a1,n1,c1,rfl,h1⟩ :=hx
 have h1:IsI _ _ _ w:=⟨_,_,_,_,rfl,h1⟩
 obtain⟨s2,a2,n2,c2,rfl,h2⟩ :=hy
 have h2:IsI _ _ _ w:=⟨_,_,_,_,rfl,h2⟩
 obtain⟨W,hW,S⟩:∃W,W =((w.alloc (.cells #[.bool s1,.slice a1 n1 c1] 28)).alloc (.cells #[.bool s2,.slice a2 n2 c2] 28)).alloc (.cells #[.bool false,.slice none 0 0] 28)/\Sto w W [((w.heap.size + 1 + 1,0),IsI 0 0),((w.heap.size + 1,0),IsI k2 z2),((w.heap.size,0),IsI k1 z1)] :=⟨_,rfl,((((Sto.start w).new1 (w.heap.size) zd s1 a1 n1 c1 28 (IsI k1 z1) (IsI.gstb _ _) (h1)).new1 (w.heap.size + 1) zd s2 a2 n2 c2 28 (IsI k2 z2) (IsI.gstb _ _) (h2.ext ((Ext.refl _).alloc _))).new1 (w.heap.size + 1 + 1) zd false none 0 0 28 (IsI 0 0) (IsI.gstb _ _) (IsI.nil _ _))⟩
 clear h1 h2
 go_enter func176,ntmps176
 go_upto_region 1 with fail
 rw[<-hW]
 clear hW
 have hl:=hid S.lt;have hw:=S.ext.size
 refine rgs 9 [some 9,some 10,some 11,some 8,some 12,some 13,some 14,some 5,some 6] [IsI k1 z1,IsI k2 z2,IsT3 (IsI k1 (z1 / z2)) (IsI k2 (z1 % z2)) (iV 0),IsT3 (IsI k1 (z1 / z2)) (IsI k2 (z1 % z2)) (iV 0),IsI k1 (z1 / z2),IsI k2 (z1 % z2),iV 0,IsBo W 1,IsBo W 1] [7,8] ?_ ?_
 ·refine Rc jl ?_
  refine Rc (ldI S 1 (w.heap.size + 1) 0 (qB 3) qE) ?_
  refine Rc (cl2 (en func213) (qA (fP:=IsI k1 z1) 0 9) (qA (fP:=IsI k2 z2) 1 10) (λx0 x1 w' hE d0 d1 =>DivMod_f d0 d1 zb zb HZ.out)) ?_
  refine Rc (mv (qA 2 11)) ?_
  refine Rc (ex (qC 3 8) t30) ?_
  refine Rc (ex (qC 3 8) t31) ?_
  refine Rc (ex (qC 3 8) t32) ?_
  refine Rc (al al_Int) ?_
  refine Rc (al al_Int) ?_
  exact rn0
 intro v W1 e1 hZ hne
 replace S:=S.mono e1
 have h12:=hZ 4 dcx
 have h13:=hZ 5 dcx
 have v6:v 6 =.int .i64 0:=hZ 6 dcx
 obtain⟨g5,v7,q2,b1,_⟩ :=(hZ 7 dcx:IsBo W 1 (v 7) W1)
 replace S:=S.addN 1 (ApartO.old hl.out q2) (jK hw q2) b1
 obtain⟨g6,v8,q4,b3,_⟩ :=(hZ 8 dcx:IsBo W 1 (v 8) W1)
 replace S:=S.addN 1 (ApartO.cons (λh =>hne 7 8 dcx dcx dcx dcx dcx (by rw[v7,v8,h])) (ApartO.old hl.out q4)) (jK hw q4) b3
 simp only[newF,List.cons_append,List.nil_append]at S
 simp only[lxE,Nat.reduceAdd]
 rw[v6,v7,v8]
 clear b1 b3 hl hw hne v6 v7 v8 hZ e1
 try simp only[List.drop_succ_cons,List.drop_zero]
 (with_reducible refine stL ?_ zbq);intro KK hKK;refine stI S 1 (g5) 0 h12 st_Int (λW1a S2 G2 =>hKK _ _ ?_) rfl
 replace h13:=(IsI.gstb _ _) _ _ _ G2 h13
 replace S:=S2;clear S2 G2 hKK KK h12
 simp only[u0x,u1x]at S
 try simp only[List.drop_succ_cons,List.drop_zero]
 (with_reducible refine stL ?_ zbq);intro KK hKK;refine stI S 0 (g6) 0 h13 st_Int (λW1b S2 G2 =>hKK _ _ ?_) rfl
 replace S:=S2;clear S2 G2 hKK KK h13
 simp only[u0x]at S
 refine jP λK hK =>?_;go_simp;refine hK _ _ ?_;clear hK K
 refine jE ?_
 go_upto_region 2 with fail
 refine rgs 1 [some 15] [IsI k1 (z1 / z2)] [] ?_ ?_
 ·refine Rc (ldI S 1 (g5) 0 (qB 5) qE) ?_
  exact rn0
 intro v W2 e1 hZ _
 replace S:=S.mono e1
 have h15:=hZ 0 dcx
 simp only[lxE]
 clear hZ e1
 try simp only[List.drop_succ_cons,List.drop_zero]
 (with_reducible refine stL ?_ zbq);intro KK hKK;refine stI S 2 (w.heap.size + 1 + 1) 0 h15 st_Int (λW2a S2 G2 =>hKK _ _ ?_) rfl
 replace S:=S2;clear S2 G2 hKK KK h15
 simp only[u0x,u1x]at S
 refine jE ?_
 go_wp2_with fail
 obtain⟨s90x,a90x,n90x,c90x,b90x,h90x⟩ :=S.at 2 (w.heap.size + 1 + 1) 0 (IsI k1 (z1 / z2)) rfl;have L90xa:World.cell? W2a ⟨w.heap.size + 1 + 1,0,none⟩=some (.bool s90x) :=b90x.c0;have L90xb:World.cell? W2a ⟨w.heap.size + 1 + 1,1,none⟩=some (.slice a90x n90x c90x) :=b90x.c1
 exact jD (v:=.agg #[.bool s90x,.slice a90x n90x c90x]) (by simp[results,results176,go_sem,L90xa,L90xb]) rfl (⟨_,rfl,S.ext,h90x⟩)
theorem reduced_c{k1 k2:Nat}{z1 z2:Int}{x y:Value}{w:World}(hx:IsI k1 z1 x w)(hy:IsI k2 z2 y w)(l1:k1 <=33554432)(l2:k2 <=33554432)(hz:z2 =1)(qn qd:Int)(hn:z1 / (Int.gcd z1 z2:Nat)=qn)(hd:z2 / (Int.gcd z1 z2:Nat)=qd):
  Calls prog 128 #[x,y] w (Ret w (IsQ (IsI k1 qn) (IsI k2 qd))) :=by
 have HG:=hid (show((Int.gcd z1 z2:Nat):Int)=1 by rw[hz];simp)
 have HU:=hid hz
 have HN:=hid hn
 have HD:=hid hd
 clear hz hn hd
 obtain⟨s1,a1,n1,c1,rfl,h1⟩ :=hx
 have h1:IsI _ _ _ w:=⟨_,_,_,_,rfl,h1⟩
 obtain⟨s2,a2,n2,c2,rfl,h2⟩ :=hy
 have h2:IsI _ _ _ w:=⟨_,_,_,_,rfl,h2⟩
 obtain⟨W,hW,S⟩:∃W,W =((w.alloc (.cells #[.bool s1,.slice a1 n1 c1] 28)).alloc (.cells #[.bool s2,.slice a2 n2 c2] 28)).alloc (.cells #[.bool false,.slice none 0 0,.bool false,.slice none 0 0] 45)/\Sto w W [((w.heap.size + 1 + 1,1),IsI 0 0),((w.heap.size + 1 + 1,0),IsI 0 0),((w.heap.size + 1,0),IsI k2 z2),((w.heap.size,0),IsI k1 z1)] :=⟨_,rfl,((((Sto.start w).new1 (w.heap.size) zd s1 a1 n1 c1 28 (IsI k1 z1) (IsI.gstb _ _) (h1)).new1 (w.heap.size + 1) zd s2 a2 n2 c2 28 (IsI k2 z2) (IsI.gstb _ _) (h2.ext ((Ext.refl _).alloc _))).new2 (w.heap.size + 1 + 1) zd false false none none 0 0 0 0 45 (IsI 0 0) (IsI 0 0) (IsI.gstb _ _) (IsI.nil _ _) (IsI.gstb _ _) (IsI.nil _ _))⟩
 clear h1 h2
 go_enter func128,ntmps128
 go_upto_region 1 with fail
 rw[<-hW]
 clear hW
 have hl:=hid S.lt;have hw:=S.ext.size
 refine rgs 4 [some 6,some 7,some 8,some 5] [IsI k1 z1,IsI k2 z2,IsI (max k1 k2) ((Int.gcd z1 z2:Nat)),IsBo W 1] [3] ?_ ?_
 ·refine Rc xu ?_
  refine Rc (ldI S 2 (w.heap.size + 1) 0 (qB 3) qE) ?_
  refine Rc (cl2 (en func175) (qA (fP:=IsI k1 z1) 0 6) (qA (fP:=IsI k2 z2) 1 7) (λx0 x1 w' hE d0 d1 =>Gcd_f d0 d1 zb zb HU.out)) ?_
  refine Rc (al al_Int) ?_
  exact rn0
 intro v W1 e1 hZ _
 replace S:=S.mono e1
 have h8:=hZ 2 dcx
 obtain⟨g5,v3,q2,b1,_⟩ :=(hZ 3 dcx:IsBo W 1 (v 3) W1)
 replace S:=S.addN 1 (ApartO.old hl.out q2) (jK hw q2) b1
 simp only[newF,List.cons_append,List.nil_append]at S
 simp only[lxE,Nat.reduceAdd]
 rw[v3]
 clear b1 hl hw v3 hZ e1
 try simp only[List.drop_succ_cons,List.drop_zero]
 (with_reducible refine stL ?_ zbq);intro KK hKK;refine stI S 0 (g5) 0 h8 st_Int (λW1a S2 G2 =>hKK _ _ ?_) rfl
 replace S:=S2;clear S2 G2 hKK KK h8
 simp only[u0x]at S
 refine jE ?_
 go_upto_region 2 with fail
 refine rg 7 (dR 9 7) [IsI k1 z1,IsI (max k1 k2) ((Int.gcd z1 z2:Nat)),IsI k1 qn,IsI k2 z2,IsI (max k1 k2) ((Int.gcd z1 z2:Nat)),IsI k2 qd,IsQ (IsI k1 qn) (IsI k2 qd)] [] 1 ?_ ?_
 ·refine Rc (ldI S 4 (w.heap.size) 0 (qB 2) qE) ?_
  refine Rc (ldI S 0 (g5) 0 (qB 5) qE) ?_
  refine Rc (cl2 (en func176) (qA (fP:=IsI k1 z1) 0 9) (qA (fP:=IsI (max k1 k2) ((Int.gcd z1 z2:Nat))) 1 10) (λx0 x1 w' hE d0 d1 =>jC (quotient_f d0 d1 zb zb HG.out) λ_ _ h =>h.eqz HN.out)) ?_
  refine Rc (ldI S 3 (w.heap.size + 1) 0 (qB 3) qE) ?_
  refine Rc (ldI S 0 (g5) 0 (qB 5) qE) ?_
  refine Rc (cl2 (en func176) (qA (fP:=IsI k2 z2) 3 12) (qA (fP:=IsI (max k1 k2) ((Int.gcd z1 z2:Nat))) 4 13) (λx0 x1 w' hE d0 d1 =>jC (quotient_f d0 d1 zb zb HG.out) λ_ _ h =>h.eqz HD.out)) ?_
  refine Rc (bq (qC 2 11) (qC 5 14) bd_Rat) ?_
  exact rn0
 intro v W2 e1 hZ _
 replace S:=S.mono e1
 have h15:=hZ 6 dcx
 simp only[lxE,Nat.reduceAdd]
 clear hZ e1
 refine stA 7 (h:=λKK hKK =>stQ S 2 1 (w.heap.size + 1 + 1) 0 h15 (IsI.gstb _ _) (IsI.gstb _ _) st_Rat (λW2a S2 G2 =>hKK _ _ ?_) rfl rfl)
 replace S:=S2;clear S2 G2 hKK KK h15
 simp only[u0x,u1x]at S
 refine jL za ?_ _
 go_wp2_with fail
 obtain⟨s90x,a90x,n90x,c90x,b90x,h90x⟩ :=S.at 2 (w.heap.size + 1 + 1) 0 (IsI k1 qn) rfl;have L90xa:World.cell? W2a ⟨w.heap.size + 1 + 1,0,none⟩=some (.bool s90x) :=b90x.c0;have L90xb:World.cell? W2a ⟨w.heap.size + 1 + 1,1,none⟩=some (.slice a90x n90x c90x) :=b90x.c1
 obtain⟨s90y,a90y,n90y,c90y,b90y,h90y⟩ :=S.at 1 (w.heap.size + 1 + 1) 1 (IsI k2 qd) rfl;have L90ya:World.cell? W2a ⟨w.heap.size + 1 + 1,2,none⟩=some (.bool s90y) :=b90y.c0;have L90yb:World.cell? W2a ⟨w.heap.size + 1 + 1,3,none⟩=some (.slice a90y n90y c90y) :=b90y.c1
 exact jD (v:=.agg #[.bool s90x,.slice a90x n90x c90x,.bool s90y,.slice a90y n90y c90y]) (by simp[results,results128,go_sem,L90xa,L90xb,L90ya,L90yb]) rfl (⟨_,rfl,S.ext,⟨_,_,_,_,_,_,_,_,rfl,h90x,h90y⟩⟩)
theorem reduced_f{k1 k2:Nat}{z1 z2:Int}{x y:Value}{w:World}(hx:IsI k1 z1 x w)(hy:IsI k2 z2 y w)(l1:k1 <=33554432)(l2:k2 <=33554432)(hz:z2 =1):
  Calls prog 128 #[x,y] w (Ret w (IsRat (max k1 k2) (Rat.divInt z1 z2))) :=by
 refine jC (reduced_c hx hy l1 l2 hz _ _ (rat_num_pos z1 z2 zb) (rat_den_pos z1 z2 zb)) λ_ _ h =>h.mono λ_ _ ⟨s,a,n,c,s',a',n',c',h1,h2,h3⟩ =>⟨s,a,n,c,s',a',n',c',h1,h2.mono zb,h3.mono zb⟩
theorem Ret.ratz{w:World}{K K':Nat}{q q':Rat}{e:Ending}{w':World}(h:Ret w (IsRat K q) e w')(hq:q =q')(hk:K <=K'):Ret w (IsRat K' q') e w':=by
 subst hq;exact h.mono λ_ _ h =>h.mono hk
theorem new_sign(n d:Int)(hd:d≠0):Rat.divInt (n * d.sign) (d.natAbs:Int)=Rat.divInt n d:=by
 rw[<-Int.mul_sign_self d]
 exact Rat.divInt_mul_right (by intro h;exact hd (Int.sign_eq_zero_iff_zero.1 h))
theorem qNew_c{k1 k2:Nat}{z1 z2:Int}{x y:Value}{w:World}(hx:IsI k1 z1 x w)(hy:IsI k2 z2 y w)(l1:k1 <=16777216)(l2:k2 <=16777216)(hu:z2 =1)(q:Rat)(hq:Rat.divInt z1 z2 =q):
  Calls prog 107 #[x,y] w (Ret w (IsT2 (IsRat (max (k1 + 2) k2) q) (iV 0))) :=by
 have hz:z2≠0:=zb
 obtain⟨sg,hsg⟩:∃s,z2.sign =s:=⟨_,rfl⟩
 have HSG:=hid hsg
 have HS0:=hid (show(sg ==0)=false by rw[jG,<-hsg];intro h;exact hz (Int.sign_eq_zero_iff_zero.1 h))
 have HSB:=hid (show -9223372036854775808 <=sg/\sg <=9223372036854775807 by rw[<-hsg];rcases Int.lt_trichotomy z2 0 with h|h|h <;> simp[Int.sign_eq_neg_one_of_neg,Int.sign_eq_one_of_pos,h])
 have HP:=hid (show((z2.natAbs:Nat):Int)=1 by omega)
 have HQ:=hid (show Rat.divInt (z1 * sg) ((z2.natAbs:Nat):Int)=q by rw[<-hsg,new_sign z1 z2 hz];exact hq)
 clear hz hsg hq hu
 obtain⟨s1,a1,n1,c1,rfl,h1⟩ :=hx
 have h1:IsI _ _ _ w:=⟨_,_,_,_,rfl,h1⟩
 obtain⟨s2,a2,n2,c2,rfl,h2⟩ :=hy
 have h2:IsI _ _ _ w:=⟨_,_,_,_,rfl,h2⟩
 obtain⟨W,hW,S⟩:∃W,W =((w.alloc (.cells #[.bool s1,.slice a1 n1 c1] 28)).alloc (.cells #[.bool s2,.slice a2 n2 c2] 28)).alloc (.cells #[.bool false,.slice none 0 0,.bool false,.slice none 0 0] 45)/\Sto w W [((w.heap.size + 1 + 1,1),IsI 0 0),((w.heap.size + 1 + 1,0),IsI 0 0),((w.heap.size + 1,0),IsI k2 z2),((w.heap.size,0),IsI k1 z1)] :=⟨_,rfl,((((Sto.start w).new1 (w.heap.size) zd s1 a1 n1 c1 28 (IsI k1 z1) (IsI.gstb _ _) (h1)).new1 (w.heap.size + 1) zd s2 a2 n2 c2 28 (IsI k2 z2) (IsI.gstb _ _) (h2.ext ((Ext.refl _).alloc _))).new2 (w.heap.size + 1 + 1) zd false false none none 0 0 0 0 45 (IsI 0 0) (IsI 0 0) (IsI.gstb _ _) (IsI.nil _ _) (IsI.gstb _ _) (IsI.nil _ _))⟩
 clear h1 h2
 go_enter func107,ntmps107
 go_upto_region 1 with fail
 rw[<-hW]
 clear hW
 refine rgs 3 [some 7,some 8,some 6] [IsI k2 z2,iV sg,iV sg] [] ?_ ?_
 ·refine Rc (ldI S 2 (w.heap.size + 1) 0 (qB 3) qE) ?_
  refine Rc (cl1 (en func127) (qA (fP:=IsI k2 z2) 0 7) (λx0 w' hE d0 =>jC (Sign_f d0) λ_ _ h =>h.int (HSG.out))) ?_
  refine Rc (mv (qA 1 8)) ?_
  exact rn0
 intro v W1 e1 hZ _
 replace S:=S.mono e1
 have v2:v 2 =.int .i64 sg:=hZ 2 dcx
 simp only[lxE,Nat.reduceAdd]
 rw[v2]
 clear v2 hZ e1
 refine jE ?_
 go_upto_region 2 with fail
 refine rgs 2 [some 9,some 10] [iV sg,IsV (.bool false)] [] ?_ ?_
 ·refine Rc (mv (qB 6)) ?_
  refine Rc (bn (r:=.bool false) (qC 0 9) qF (hr:=λw =>by have hx9:=HS0.out;go_simp)) ?_
  exact rn0
 intro v W2 e1 hZ _
 replace S:=S.mono e1
 have v1:v 1 =.bool false:=hZ 1 dcx
 simp only[lxE,Nat.reduceAdd]
 rw[v1]
 clear v1 hZ e1
 refine jE ?_
 go_upto_region 4 with fail
 refine rg 7 (dR 12 7) [IsI k1 z1,iV sg,IsI 2 sg,IsI (k1 + 2) (z1 * sg),IsI k2 z2,IsI k2 z2.natAbs,IsQ (IsI (max (k1 + 2) k2) q.num) (IsI (max (k1 + 2) k2) ((q.den:Int)))] [] 2 ?_ ?_
 ·refine Rc xu ?_
  refine Rc (mv (qB 6)) ?_
  refine Rc (cl1 (en func108) (qA (fP:=iV sg) 1 13) (λx0 w' hE d0 =>by{obtain rfl:x0 =.int .i64 sg:=d0;exact Of_f _ sg HSB.out.1 HSB.out.2})) ?_
  refine Rc (cl2 (en func129) (qA (fP:=IsI k1 z1) 0 12) (qA (fP:=IsI 2 sg) 2 14) (λx0 x1 w' hE d0 d1 =>Mul_f d0 d1 zb zb)) ?_
  refine Rc (ldI S 2 (w.heap.size + 1) 0 (qB 3) qE) ?_
  refine Rc (cl1 (en func130) (qA (fP:=IsI k2 z2) 4 16) (λx0 w' hE d0 =>Abs_f d0)) ?_
  refine Rc (cl2 (en func128) (qA (fP:=IsI (k1 + 2) (z1 * sg)) 3 15) (qA (fP:=IsI k2 z2.natAbs) 5 17) (λx0 x1 w' hE d0 d1 =>jC (reduced_f d0 d1 zb zb HP.out) λ_ _ h =>h.ratz HQ.out (jJ _))) ?_
  exact rn0
 intro v W4 e1 hZ _
 replace S:=S.mono e1
 have h18:=hZ 6 dcx
 simp only[lxE,Nat.reduceAdd]
 clear hZ e1
 refine stA 7 (h:=λKK hKK =>stQ S 1 0 (w.heap.size + 1 + 1) 0 h18 (IsI.gstb _ _) (IsI.gstb _ _) st_Rat (λW4a S2 G2 =>hKK _ _ ?_) rfl rfl)
 replace S:=S2;clear S2 G2 hKK KK h18
 simp only[u0x,u1x]at S
 refine wpAny_ready (rs:= [8]) za zd (AllReady.cons rfl (λK hK =>?_) AllReady.nil);go_simp;refine hK _ _ ?_;clear hK K
 refine jL za ?_ _
 go_wp2_with fail
 obtain⟨s90x,a90x,n90x,c90x,b90x,h90x⟩ :=S.at 1 (w.heap.size + 1 + 1) 0 (IsI (max (k1 + 2) k2) q.num) rfl;have L90xa:World.cell? W4a ⟨w.heap.size + 1 + 1,0,none⟩=some (.bool s90x) :=b90x.c0;have L90xb:World.cell? W4a ⟨w.heap.size + 1 + 1,1,none⟩=some (.slice a90x n90x c90x) :=b90x.c1
 obtain⟨s90y,a90y,n90y,c90y,b90y,h90y⟩ :=S.at 0 (w.heap.size + 1 + 1) 1 (IsI (max (k1 + 2) k2) ((q.den:Int))) rfl;have L90ya:World.cell? W4a ⟨w.heap.size + 1 + 1,2,none⟩=some (.bool s90y) :=b90y.c0;have L90yb:World.cell? W4a ⟨w.heap.size + 1 + 1,3,none⟩=some (.slice a90y n90y c90y) :=b90y.c1
 exact jD (v:=.tuple #[.agg #[.bool s90x,.slice a90x n90x c90x,.bool s90y,.slice a90y n90y c90y],.int .i64 0]) (by simp[results,results107,go_sem,L90xa,L90xb,L90ya,L90yb]) rfl (⟨_,rfl,S.ext,_,_,rfl,⟨_,_,_,_,_,_,_,_,rfl,h90x,h90y⟩,rfl⟩)
def cmpQ(p q:Rat):Int:=qJ (p.num * (q.den:Int)) (q.num * (p.den:Int))
def isU32(x:Value):Prop:=∃n:Nat,x =.int .u32 (n:Int)
theorem RowOf.wd{w:World}{base n cap:Nat}{ao:Option Addr}{xs:List Nat}(h:RowOf 145 isU32 w base (.slice ao n cap) (xG xs))(hx:∀i,xs.getD i 0 < 4294967296):Wd w ao n cap xs:=by
 have h0:=h
 rcases h with⟨h,hw⟩| ⟨g,cap',cur,h1,h2,h3,h4,h5,h6,h7,h8⟩
 ·simp only[Value.slice.injEq]at h
  obtain⟨rfl,rfl,rfl⟩ :=h
  have:xs = [] :=by simpa [xG]using hw
  rw[this];exact wd_nil _ _ _ zb
 ·simp only[Value.slice.injEq]at h1
  obtain⟨rfl,rfl,rfl⟩ :=h1
  refine⟨(qK xs).symm,h4,h5,hx,.inr ⟨g,0,rfl,heap_lt h3,λj hj =>?_⟩⟩
  rw[Nat.zero_add]
  exact h0.cell j _ (wcells_getElem? xs j (by rw[qK]at hj;exact hj))
def Rw(w:World)(base:Nat)(v:Value)(xs:List Nat):Prop:=RowOf 145 isU32 w base v (xG xs)/\∀i,xs.getD i 0 < 4294967296
theorem Rw.shape{w:World}{base:Nat}{v:Value}{xs:List Nat}(h:Rw w base v xs):∃ao cap,v =.slice ao xs.length cap/\ (xs≠ [] ->∃g,ao =some ⟨g,0,none⟩/\base <=g/\g < w.heap.size)/\xs.length <=cap/\cap <=9223372036854775807:=by
 obtain⟨ao,cap,h1,h2,h3,h4⟩ :=h.1.shape
 rw[qK]at h1 h3
 exact⟨ao,cap,h1,λhx =>h2 (λh =>hx (List.map_eq_nil_iff.1 h)),h3,h4⟩
theorem Rw.wd{w:World}{base:Nat}{v:Value}{xs:List Nat}(h:Rw w base v xs):∃ao cap,v =.slice ao xs.length cap/\Wd w ao xs.length cap xs:=by
 obtain⟨ao,cap,rfl,_⟩ :=h.shape
 exact⟨ao,cap,rfl,h.1.wd h.2⟩
theorem Rw.start(w:World)(base:Nat)(h:base <=w.heap.size):Rw (w.alloc (.cells #[] 145)) base (.slice (some ⟨w.heap.size,0,none⟩) 0 0) [] :=
 ⟨.inr ⟨w.heap.size,0,#[],rfl,h,heap_alloc_new _ _,by simp[xG],by omega,rfl,by simp[xG],by simp⟩,λi =>by simp⟩
theorem wcells_snoc(xs:List Nat)(y:Nat):xG xs ++ [.int .u32 (y:Int)]=xG (xs ++ [y]) :=by simp[xG]
def IsWk(k m:Nat):Value ->World ->Prop:=λx w =>∃a n c xs,x =.slice a n c/\Wd w a n c xs/\n <=k/\qD xs =m
theorem IsWk.gstb(k m:Nat):GStb (IsWk k m) :=λ_ _ _ e ⟨a,n,c,xs,h1,h2,h3⟩ =>⟨a,n,c,xs,h1,h2.gr e,h3⟩
theorem IsWk.stb(k m:Nat):Stb (IsWk k m) :=(IsWk.gstb k m).stb
instance (k m:Nat):StbC (IsWk k m) :=⟨IsWk.stb k m⟩
theorem Rw.isWk{w:World}{base k m:Nat}{v:Value}{xs:List Nat}(h:Rw w base v xs)(hk:xs.length <=k)(hm:qD xs =m):IsWk k m v w:=by
 obtain⟨ao,cap,rfl,hw⟩ :=h.wd
 exact⟨ao,_,cap,xs,rfl,hw,hk,hm⟩
def Upd(g:Nat)(w w':World):Prop:=Below g w w'/\∀b,b≠g ->b < w.heap.size ->w'.heap[b]? =w.heap[b]?
theorem Upd.trans{g:Nat}{a b c:World}(h:Upd g a b)(k:Upd g b c):Upd g a c:=
 ⟨Below.trans h.1 k.1,λx hx hl =>(k.2 x hx (Nat.lt_of_lt_of_le hl (Below.size h.1))).trans (h.2 x hx hl)⟩
theorem Upd.set(g j:Nat)(w:World)(v:Value):Upd g w (w.setCell ⟨g,j,none⟩ v) :=
 ⟨(Below.refl g w).setCell (jJ _) v,λ_ hb _ =>Below.heap_setCell _ _ _ _ hb⟩
/-! ### rows that grow by one word -/
theorem snoc_getD(xs:List Nat)(y i:Nat):(xs ++ [y]).getD i 0 =if i =xs.length then y else xs.getD i 0:=by
 rw[getD_append]
 by_cases h:i < xs.length
 ·rw[if_pos h,if_neg (by omega)]
 ·rw[if_neg h]
  by_cases h2:i =xs.length
  ·rw[if_pos h2,h2,Nat.sub_self];rfl
  ·rw[if_neg h2,xT xs i (by omega),xT _ _ (by simp;omega)]
theorem snoc_val(xs:List Nat)(y:Nat):qD (xs ++ [y])=qD xs + 4294967296 ^ xs.length * y:=by
 rw[natVal_append];simp[qD]
theorem snoc_lt{xs:List Nat}{y:Nat}(hx:∀i,xs.getD i 0 < 4294967296)(hy:y < 4294967296):∀i,(xs ++ [y]).getD i 0 < 4294967296:=by
 intro i;rw[snoc_getD];split
 ·exact hy
 ·exact hx i
def PlusS(A B xs:List Nat)(k c:Nat):Prop:=xs.length =k/\ (∀i,xs.getD i 0 < 4294967296)/\qD xs + 4294967296 ^ k * c =pv A k + pv B k/\c <=1
theorem PlusS.start(A B:List Nat):PlusS A B [] 0 0:=⟨rfl,λi =>by simp,by simp[qD,pv],by omega⟩
theorem PlusS.step{A B xs:List Nat}{k c:Nat}(h:PlusS A B xs k c)(hA:∀i,A.getD i 0 < 4294967296)(hB:∀i,B.getD i 0 < 4294967296):
  PlusS A B (xs ++ [(c + (A.getD k 0 + B.getD k 0)) % 4294967296]) (k + 1) ((c + (A.getD k 0 + B.getD k 0)) / 4294967296) :=by
 obtain⟨h1,h2,h3,h4⟩ :=h
 have a:=hA k
 have b:=hB k
 refine⟨by simp[h1],snoc_lt h2 (jO _ dcx),?_,by omega⟩
 rw[snoc_val,h1,pv,pv]
 exact add_step _ _ _ k _ _ c _ _ h3 (by congr 1;omega) (by congr 1;omega)
theorem PlusS.fin{A B xs:List Nat}{k c:Nat}(h:PlusS A B xs k c)(hA:A.length <=k)(hB:B.length <=k):qD (xs ++ [c])=qD A + qD B/\ (∀i,(xs ++ [c]).getD i 0 < 4294967296) :=by
 obtain⟨h1,h2,h3,h4⟩ :=h
 rw[snoc_val,h1,h3,xE A k hA,xE B k hB]
 exact⟨rfl,snoc_lt h2 zb⟩
def MinusS(A B xs:List Nat)(k c:Nat):Prop:=xs.length =k/\ (∀i,xs.getD i 0 < 4294967296)/\qD xs + pv B k =pv A k + 4294967296 ^ k * c/\c <=1
theorem MinusS.start(A B:List Nat):MinusS A B [] 0 0:=⟨rfl,λi =>by simp,by simp[qD,pv],by omega⟩
theorem MinusS.step{A B xs:List Nat}{k c:Nat}(h:MinusS A B xs k c)(hA:∀i,A.getD i 0 < 4294967296)(hB:∀i,B.getD i 0 < 4294967296):
  MinusS A B (xs ++ [(4294967296 + A.getD k 0 - B.getD k 0 - c) % 4294967296]) (k + 1) (1 - (4294967296 + A.getD k 0 - B.getD k 0 - c) / 4294967296) :=by
 obtain⟨h1,h2,h3,h4⟩ :=h
 have a:=hA k
 have b:=hB k
 refine⟨by simp[h1],snoc_lt h2 (jO _ dcx),?_,by omega⟩
 rw[snoc_val,h1,pv,pv]
 exact sub_step _ _ _ k _ _ c _ _ h3 zb
theorem minus_end(p a b q c:Nat)(h:p + b =a + q * c)(hc:c <=1)(hle:b <=a)(hp:p < q):p =a - b:=by
 rcases jH c with h0|h0
 ·rw[h0]at h;omega
 ·have:c =1:=by omega
  rw[this]at h;omega
theorem pv_small(B:List Nat)(k:Nat)(h:qD B < 4294967296 ^ k):pv B k =qD B:=by
 rcases jN k B.length with hk|hk
 ·rw[pv_take]
  have h2:=natVal_append (B.take k) (B.drop k)
  rw[List.take_append_drop,List.length_take,Nat.min_eq_left (by omega)]at h2
  rcases jH (qD (B.drop k))with h0|h0
  ·rw[h0]at h2;omega
  ·have:=Nat.le_mul_of_pos_right (4294967296 ^ k) h0
   omega
 ·exact xE B k hk
theorem MinusS.fin{A B xs:List Nat}{k c:Nat}(h:MinusS A B xs k c)(hx:∀i,A.getD i 0 < 4294967296)(hA:A.length <=k)(hle:qD B <=qD A):qD xs =qD A - qD B:=by
 obtain⟨h1,h2,h3,h4⟩ :=h
 have hl:=xM A hx
 have hp:4294967296 ^ A.length <=4294967296 ^ k:=Nat.pow_le_pow_right dcx hA
 rw[xE A k hA,pv_small B k (by omega)]at h3
 have:=xM xs h2
 rw[h1]at this
 exact minus_end _ _ _ _ _ h3 h4 hle this
/-! ### order -/
/-! ### long division,bit by bit:what the loop keeps ahead of bit i - 1 (i bits are still to come) -/
theorem word_c(w:World)(ao:Option Addr)(n cap:Nat)(xs:List Nat)(h:Wd w ao n cap xs)(i:Nat)(hi:i < 9223372036854775807):
  Calls prog 94 #[.slice ao n cap,.int .i64 (i:Int)] w (RSame w (.int .u64 ((xs.getD i 0:Nat):Int))) :=by
 by_cases hl:i < n
 ·rcases h.shape with h0| ⟨b,off,rfl,hb⟩
  ·omega
  ·have hc:=h.cell i hl
   have hx:=h.lt i
   generalize xs.getD i 0 =x at *
   clear h
   go_enter func94,ntmps94
   go_wp2_with fail
   go_ret
   exact⟨rfl,rfl⟩
 ·have hx:xs.getD i 0 =0:=xT _ _ (by rw[h.len];omega)
  rw[hx]
  clear hx h
  go_enter func94,ntmps94
  go_wp2_with fail
  go_ret
  exact⟨rfl,rfl⟩
def PlI(w:World)(A B:List Nat)(N gk:Nat)(v5 v6 v7:Value)(wr:World):Prop:=
 ∃(xs:List Nat) (k c:Nat),v6 =.int .u64 (c:Int)/\v7 =.int .i64 (k:Int)/\k + gk =N/\Rw wr w.heap.size v5 xs/\PlusS A B xs k c/\Ext w wr
theorem row_next{wr:World}{base:Nat}{v:Value}{xs:List Nat}{u:Nat}{y:Int}(hr:RowOf 145 isU32 wr base v (xG xs ++ [.int .u32 y]))(hx:∀i,xs.getD i 0 < 4294967296)(hy:y =(u:Int))(hu:u < 4294967296):Rw wr base v (xs ++ [u]) :=by
 subst hy
 rw[wcells_snoc]at hr
 exact⟨hr,snoc_lt hx hu⟩
theorem plus_wd(w:World)(a1 a2:Option Addr)(n1 n2 c1 c2:Nat)(A B:List Nat)(h1:Wd w a1 n1 c1 A)(h2:Wd w a2 n2 c2 B)(s1:n1 <=1073741824)(s2:n2 <=1073741824):
  Calls prog 74 #[.slice a1 n1 c1,.slice a2 n2 c2] w (Ret w (IsWk (max n1 n2 + 1) (qD A + qD B))) :=by
 have HA:=hid h1.lt
 have HB:=hid h2.lt
 have HW1:=hid h1
 have HW2:=hid h2
 obtain⟨N,hN⟩:∃N,N =max n1 n2:=⟨_,rfl⟩
 have hlA:A.length <=N:=by rw[h1.len];omega
 have hlB:B.length <=N:=by rw[h2.len];omega
 have hNs:N <=1073741824:=zb
 have HF:=hid (jI hlA hlB)
 rw[<-hN]
 obtain⟨W,hW⟩:∃W,W =w.alloc (.cells #[] 145) :=⟨_,rfl⟩
 have I0:Hid (PlI w A B N N (.slice (some ⟨w.heap.size,0,none⟩) 0 0) (.int .u64 0) (.int .i64 0) W) :=hid ⟨[],0,0,rfl,rfl,by omega,hW ▸ Rw.start w _ (jJ _),PlusS.start A B,by rw[hW];exact(Ext.refl w).alloc _⟩
 have hmx:∀k:Nat,k <=N ->((k < n1\/k < n2) ↔ k < N) :=λk hk =>by omega
 have Hm:=hid hmx
 have hNi:(N:Int)=max (n1:Int) (n2:Int) :=zb
 clear h1 h2 hlA hlB hN hmx
 go_enter func74,ntmps74
 go_wp2_with fail
 rw[<-hW]
 clear hW
 go_loopg [5,6,7] N (λgk v5 v6 v7 wr =>Hid (PlI w A B N gk v5 v6 v7 wr))
 case atStart =>exact I0
 case round =>
  clear I0
  obtain⟨xs,k,c,rfl,rfl,hk,hr,hs,E⟩ :=hrel.out
  clear hrel
  have hc1:=hs.2.2.2
  have HLen:Hid (xs.length <=1073741824) :=by have h0:=hs.1;exact hid zb
  have HS:Hid (w.heap.size <=wr.heap.size) :=hid E.size
  have HR:=hid hr
  have HST:=hid hs
  have HE:=hid E
  clear hr hs E
  by_cases hkN:k < N
  ·have W0:=hid (word_c wr a1 n1 c1 A (HW1.out.ext HE.out) k zb)
   have W0a:=hid (word_c wr a2 n2 c2 B (HW2.out.ext HE.out) k zb)
   have hst:=HST.out.step HA.out HB.out
   have hx:=HA.out k
   have hy:=HB.out k
   generalize A.getD k 0 =x at *
   generalize B.getD k 0 =y at *
   have Hst:=hid hst
   have hdec:decide ((k:Int) < max (n1:Int) (n2:Int))=true:=by simp;omega
   have hj:¬((k:Int) < (n1:Int)) ->(k:Int) < (n2:Int) :=zb
   clear hst
   obtain⟨u,hu⟩:∃u:Nat,(c + (x + y)) % 4294967296 =u:=⟨_,rfl⟩
   rw[hu]at Hst
   have hul:u < 4294967296:=zb
   go_wp2_with fail
   all_goals
    refine jC W0.out ?_
    rintro e w1 ⟨rfl,rfl⟩
    go_wp2_with fail
    refine jC W0a.out ?_
    rintro e w1 ⟨rfl,rfl⟩
    go_wp2_with (at_builtin;go_must (refine wpl_row rfl _ _ 26 145 rfl isU32 (.int .u32 0) 4 za Tryz.infoU32 rfl ⟨0,rfl⟩ (w.heap.size) _ _ rfl (HR.out.1.ext ((Ext.refl _).alloc _)) _ _ (.int .u32 (u:Int)) rfl (by(try simp);(try omega)) rfl ⟨_,rfl⟩ jr jr zad ?_;intro v9 w9 hr9 hb9 hg9))
    have J':Hid (PlI w A B N (gk - 1) v9 (.int .u64 (((c + (x + y)) / 4294967296:Nat):Int)) (.int .i64 ((k:Int) + 1)) w9) :=hid ⟨_,k + 1,_,rfl,rfl,by omega,row_next hr9 HST.out.2.1 rfl hul,Hst.out,Below.ext (HE.out.alloc _) hb9 (jJ _)⟩
    go_roundg (gk - 1)
    case measure =>omega
    case rel =>exact J'
  ·obtain rfl:k =N:=by omega
   have hfin:=HST.out.fin HF.out.1 HF.out.2
   have Hfin:=hid hfin
   have hdec:decide ((k:Int) < max (n1:Int) (n2:Int))=false:=by simp;omega
   have hj1:¬k < n1:=zb
   have hj2:¬k < n2:=zb
   clear hfin
   go_wp2_with (at_builtin;go_must (refine wpl_row rfl _ _ 26 145 rfl isU32 (.int .u32 0) 4 za Tryz.infoU32 rfl ⟨0,rfl⟩ (w.heap.size) _ _ rfl (HR.out.1.ext ((Ext.refl _).alloc _)) _ _ (.int .u32 (c:Int)) rfl (by(try simp);(try omega)) rfl ⟨_,rfl⟩ jr jr zad ?_;intro v9 w9 hr9 hb9 hg9))
   go_ret
   exact⟨_,rfl,Below.ext (HE.out.alloc _) hb9 (jJ _),Rw.isWk (xs:=xs ++ [c]) ⟨by rw[wcells_snoc]at hr9;exact hr9,Hfin.out.2⟩ (by have:=HST.out.1;simp;omega) Hfin.out.1⟩
def MiI(w:World)(A B:List Nat)(N gk:Nat)(v5 v6 v7:Value)(wr:World):Prop:=
 ∃(xs:List Nat) (k c:Nat),v6 =.int .u64 (c:Int)/\v7 =.int .i64 (k:Int)/\k + gk =N/\Rw wr w.heap.size v5 xs/\MinusS A B xs k c/\Ext w wr
theorem minus_wd(w:World)(a1 a2:Option Addr)(n1 n2 c1 c2:Nat)(A B:List Nat)(h1:Wd w a1 n1 c1 A)(h2:Wd w a2 n2 c2 B)(s1:n1 <=1073741824)(hle:qD B <=qD A):
  Calls prog 75 #[.slice a1 n1 c1,.slice a2 n2 c2] w (Ret w (IsWk n1 (qD A - qD B))) :=by
 have HA:=hid h1.lt
 have HB:=hid h2.lt
 have HW1:=hid h1
 have HW2:=hid h2
 have HF:=hid h1.len
 have HLe:=hid hle
 obtain⟨W,hW⟩:∃W,W =w.alloc (.cells #[] 145) :=⟨_,rfl⟩
 have I0:Hid (MiI w A B n1 n1 (.slice (some ⟨w.heap.size,0,none⟩) 0 0) (.int .u64 0) (.int .i64 0) W) :=hid ⟨[],0,0,rfl,rfl,by omega,hW ▸ Rw.start w _ (jJ _),MinusS.start A B,by rw[hW];exact(Ext.refl w).alloc _⟩
 clear h1 h2 hle
 go_enter func75,ntmps75
 go_wp2_with fail
 rw[<-hW]
 clear hW
 go_loopg [5,6,7] n1 (λgk v5 v6 v7 wr =>Hid (MiI w A B n1 gk v5 v6 v7 wr))
 case atStart =>exact I0
 case round =>
  clear I0
  obtain⟨xs,k,c,rfl,rfl,hk,hr,hs,E⟩ :=hrel.out
  clear hrel
  have hc1:=hs.2.2.2
  have HLen:Hid (xs.length <=1073741824) :=by have h0:=hs.1;exact hid zb
  have HS:Hid (w.heap.size <=wr.heap.size) :=hid E.size
  have HR:=hid hr
  have HST:=hid hs
  have HE:=hid E
  clear hr hs E
  by_cases hkN:k < n1
  ·have W0:=hid (word_c wr a1 n1 c1 A (HW1.out.ext HE.out) k zb)
   have W0a:=hid (word_c wr a2 n2 c2 B (HW2.out.ext HE.out) k zb)
   have hst:=HST.out.step HA.out HB.out
   have hx:=HA.out k
   have hy:=HB.out k
   generalize A.getD k 0 =x at *
   generalize B.getD k 0 =y at *
   have Hst:=hid hst
   clear hst
   obtain⟨t,ht⟩:∃t,t =4294967296 + x - y - c:=⟨_,rfl⟩
   have ht1:(4294967296:Int) + (x:Int) - (y:Int) - (c:Int)=(t:Int) :=zb
   have ht2:t < 8589934592:=zb
   have ht3:((t:Int) / 4294967296) <=1:=zb
   rw[<-ht]at Hst
   obtain⟨u,hu⟩:∃u:Nat,t % 4294967296 =u:=⟨_,rfl⟩
   rw[hu]at Hst
   have hul:u < 4294967296:=zb
   clear ht
   go_wp2_with fail
   refine jC W0.out ?_
   rintro e w1 ⟨rfl,rfl⟩
   go_wp2_with fail
   refine jC W0a.out ?_
   rintro e w1 ⟨rfl,rfl⟩
   go_wp2_with (at_builtin;go_must (refine wpl_row rfl _ _ 26 145 rfl isU32 (.int .u32 0) 4 za Tryz.infoU32 rfl ⟨0,rfl⟩ (w.heap.size) _ _ rfl (HR.out.1.ext ((Ext.refl _).alloc _)) _ _ (.int .u32 (u:Int)) rfl (by(try simp);(try omega)) rfl ⟨_,rfl⟩ jr jr zad ?_;intro v9 w9 hr9 hb9 hg9))
   have J':Hid (MiI w A B n1 (gk - 1) v9 (.int .u64 (1 - (t:Int) / 4294967296)) (.int .i64 ((k:Int) + 1)) w9) :=hid ⟨_,k + 1,1 - t / 4294967296,congrArg (Value.int .u64) zb,rfl,by omega,row_next hr9 HST.out.2.1 rfl hul,Hst.out,Below.ext (HE.out.alloc _) hb9 (jJ _)⟩
   go_roundg (gk - 1)
   case measure =>omega
   case rel =>exact J'
  ·obtain rfl:k =n1:=by omega
   have hfin:=HST.out.fin HA.out (by rw[HF.out];exact jJ _) HLe.out
   have Hfin:=hid hfin
   clear hfin
   go_wp2_with fail
   go_ret
   exact⟨_,rfl,HE.out,HR.out.isWk (by have:=HST.out.1;omega) Hfin.out⟩
end
section
open Go Go.RowKit
open Go.Proofs.Tryz
set_option maxRecDepth 100000
set_option maxHeartbeats 2000000
theorem plus_c(w:World)(a1 a2:Option Addr)(n1 n2 c1 c2 k1 k2 x y:Nat)(h1:NatAt w k1 a1 n1 c1 x)(h2:NatAt w k2 a2 n2 c2 y)(s1:k1<=1073741824)(s2:k2<=1073741824):
    Calls prog 74 #[.slice a1 n1 c1,.slice a2 n2 c2] w (Ret w (IsWk (max k1 k2+1) (x+y))):=by
  obtain⟨xs,h1,l1,_,rfl⟩:=h1;obtain⟨ys,h2,l2,_,rfl⟩:=h2;refine(plus_wd w a1 a2 n1 n2 c1 c2 xs ys h1 h2 zb zb).mono ?_;rintro e w' ⟨x,rfl,e1,a,n,c,zs,rfl,h,hk,hv⟩;exact⟨_,rfl,e1,a,n,c,zs,rfl,h,by omega,hv⟩
theorem minus_c(w:World)(a1 a2:Option Addr)(n1 n2 c1 c2 k1 k2 x y:Nat)(h1:NatAt w k1 a1 n1 c1 x)(h2:NatAt w k2 a2 n2 c2 y)(s1:k1<=1073741824)(hle:y<=x):
    Calls prog 75 #[.slice a1 n1 c1,.slice a2 n2 c2] w (Ret w (IsWk k1 (x-y))):=by
  obtain⟨xs,h1,l1,_,rfl⟩:=h1;obtain⟨ys,h2,l2,_,rfl⟩:=h2;refine(minus_wd w a1 a2 n1 n2 c1 c2 xs ys h1 h2 zb hle).mono ?_;rintro e w' ⟨x,rfl,e1,a,n,c,zs,rfl,h,hk,hv⟩;exact⟨_,rfl,e1,a,n,c,zs,rfl,h,by omega,hv⟩
theorem RNeg_c(w:World)(s1:Bool)(a1:Option Addr)(n1 c1 k1:Nat)(z1:Int)(h1:IntAt w k1 s1 a1 n1 c1 z1):Calls prog 76 #[.agg #[.bool s1,.slice a1 n1 c1]] w (RInt w k1 (-z1)):=by
  obtain⟨m,⟨xs,hw,hk,_,hm⟩,hs,hz⟩:=h1;have hz': -z1=if (!s1)then -(qD xs:Int)else qD xs:=by rw[hz,hm];cases s1 <;> simp
  have Hz:=hid hz';clear hz hz' hm hs;obtain⟨W,hW,K0⟩:=kp1 w s1 a1 n1 c1;have q0:=K0.cell 0 0 [.bool s1,.slice a1 n1 c1] _ zd rfl;have q1:=K0.cell 0 1 [.bool s1,.slice a1 n1 c1] _ zd rfl;have hnot:∀(x:Bool) (w:World),(Op.unary .not (.bool x)).run prog w=.ok (.bool (!x)) w:=λ_ _=>rfl
  go_enter func76,ntmps76;go_wp2_with fail;rw[<-hW];refine jC (rmade_c _ (!s1) _ _ _ xs (-z1) (hw.ext K0.ext) Hz.out) ?_;clear hW;rintro e w1 ⟨s3,a3,n3,c3,rfl,e1,h3⟩;have KF:=K0.after e1;obtain⟨⟨_,r0,_⟩,f0⟩:=Kp.res KF 1 2 zd 0 zb;obtain⟨⟨_,r1,_⟩,f1⟩:=Kp.res KF 1 2 zd 1 zb;have h3:=h3.mono hk;clear q0 q1 hnot;go_wp2_with fail;refine jD (v:=.agg #[.bool s3,.slice a3 n3 c3]) (by simp[results,results76,go_sem,r0,r1]) rfl (Kp.fin KF 1 zd zd h3)
theorem RAbs_c(w:World)(s:Bool)(ao:Option Addr)(n cap k:Nat)(z:Int)(h:IntAt w k s ao n cap z):
    Calls prog 124 #[.agg #[.bool s,.slice ao n cap]] w (RInt w k z.natAbs):=by
  obtain⟨m,⟨xs,hw,hk,_,hm⟩,hs,hz⟩:=h;have hz':(z.natAbs:Int)=qD xs:=by rw[hz,hm];cases s <;> simp
  have Hw:=hid hw;have Hz:=hid hz';clear hw hz hz' hm;obtain⟨W,hW,e0,b0,b1⟩:=pro1 w s ao n cap;go_enter func124,ntmps124;go_wp2_with fail;refine jC (rmade_c _ false _ _ _ xs z.natAbs (hW▸Hw.out.ext e0) (by rw[Hz.out];simp)) ?_;rw[<-hW];clear hW;rintro e w1 ⟨s1,a1,n1,c1,rfl,e1,h1⟩;have b1:=b1.ext e1;have q0:=b1.c0;have q1:=b1.c1;have r0:=b1.f 0;have r1:=b1.f 1;have B1:=hid b1;clear b0 b1;go_wp2_with fail;refine jD (v:=.agg #[.bool s1,.slice a1 n1 c1]) (by simp[results,results124,go_sem,q0,q1]) rfl ?_;exact⟨_,_,_,_,rfl,(e0.trans e1).put (Nat.le_succ _),(h1.put B1.out).mono hk⟩
theorem tRFact_2{P:Prop}(h:P:=by
  go_enter func91,ntmps91
  go_wp2
  go_ret
  exact⟨rfl,(Ext.refl w).alloc _⟩
  ):P:=h
theorem RSign_c(w:World)(s:Bool)(ao:Option Addr)(n cap k:Nat)(z:Int)(h:IntAt w k s ao n cap z):
    Calls prog 91 #[.agg #[.bool s,.slice ao n cap]] w (RVal w (.int .i64 z.sign)):=by
  obtain⟨m,hm,hs,hz⟩:=h;have hz0:=hm.zero;rcases jH n with h0|h0
  · have:z.sign=0:=by
      rw[hz,hz0.2 h0];cases s <;> rfl
    rw[this];subst h0;clear hm hs hz hz0 this;exact tRFact_2
  · have hm0:m≠0:=λh=>by have:=hz0.1 h;omega
    have h1:((n:Int)==0)=false:=by rw[jG];omega
    cases s
    · have:z.sign=1:=by rw[hz];exact Int.sign_eq_one_of_pos zak
      rw[this];clear hm hs hz hz0 this hm0 h0;exact tRFact_2
    · have:z.sign= -1:=by rw[hz];exact Int.sign_eq_neg_one_of_neg zak
      rw[this];clear hm hs hz hz0 this hm0 h0;exact tRFact_2
theorem tRFact_1{P:Prop}(h:P:=by
  go_wp2_with fail;refine jD (v:=.agg #[.bool s3,.slice a3 n3 c3]) (by simp[results,results51,go_sem,r0,r1]) rfl (Kp.fin KF 2 zd zd h3)
  ):P:=h
theorem RAdd_c(w:World)(s1 s2:Bool)(a1 a2:Option Addr)(n1 n2 c1 c2 k1 k2:Nat)(z1 z2:Int)(h1:IntAt w k1 s1 a1 n1 c1 z1)(h2:IntAt w k2 s2 a2 n2 c2 z2)(l1:k1<=268435456)(l2:k2<=268435456):
    Calls prog 51 #[.agg #[.bool s1,.slice a1 n1 c1],.agg #[.bool s2,.slice a2 n2 c2]] w (RInt w (max k1 k2+1) (z1+z2)):=by
  obtain⟨m1,h1,_,hz1⟩:=h1;obtain⟨m2,h2,_,hz2⟩:=h2;obtain⟨W,hW,K0⟩:=kp2 w s1 s2 a1 a2 n1 n2 c1 c2;have Hz1:=hid hz1;have Hz2:=hid hz2;clear hz1 hz2;have KC:=hid (kc2 w s1 s2 a1 a2 n1 n2 c1 c2);have hcm:Hid (∀W',Ext w W'->Calls prog 63 #[.slice a1 n1 c1,.slice a2 n2 c2] W' (RVal W' (.int .i64 (qJ m1 m2)))):=λW' e=>rsize_c W' a1 a2 n1 n2 c1 c2 k1 k2 m1 m2 (h1.ext e) (h2.ext e) zb
  by_cases hs:s1=s2
  · have Hz:Hid (z1+z2=if s1 then -((m1+m2:Nat):Int)else(m1+m2:Nat)):=by
      show _=_;subst hs;rw[Hz1.out,Hz2.out];cases s1 <;> simp <;> omega
    have hb:(s1==s2)=true:=by simp[hs]
    clear hs;obtain⟨_,q1,q2,q3,q4⟩:=KC.out _ K0;go_enter func51,ntmps51;go_wp2_with fail;rw[<-hW];clear hW
    go_region_held3 (λw'=>Kp w w' [(1, [.bool s2,.slice a2 n2 c2]),(0, [.bool s1,.slice a1 n1 c1])] [(2,2)]/\w'.cell? ⟨w.heap.size,0,none⟩=some (.bool s1)/\w'.cell? ⟨w.heap.size,1,none⟩=some (.slice a1 n1 c1)/\w'.cell? ⟨w.heap.size+1,0,none⟩=some (.bool s2)/\w'.cell? ⟨w.heap.size+1,1,none⟩=some (.slice a2 n2 c2)) ((go_split_ands;refine KC.out _ ?_;first|assumption|exact Kp.drew zf|exact Kp.drew (Kp.drewN zf _)|exact Kp.after zf zf|exact(Kp.put2 zf 2 zd _ _ _ _ zd).1))
      (first
        | (go_at_call 74;go_must (go_split_ands;(with_reducible refine jC (plus_c _ _ _ _ _ _ _ k1 k2 m1 m2 ?_ ?_ zb zb) ?_);exact h1.ext (Kp.ext zf);exact h2.ext (Kp.ext zf);rintro e w1 ⟨x0,rfl,e1,ao,n,cap,xs,rfl,hm,hk,hv⟩;have Hv:=hid hv;clear hv))
        | (go_at_call 59;go_must (go_split_ands;(with_reducible refine jC (rmade_c _ _ _ _ _ xs (z1+z2) hm ?_) ?_);rw[Hv.out];exact Hz.out;rintro e w2 ⟨s3,a3,n3,c3,rfl,e2,h3⟩;have KF:=Kp.after zf e2;obtain⟨⟨_,r0,_⟩,f0⟩:=Kp.res KF 2 2 zd 0 zb;obtain⟨⟨_,r1,_⟩,f1⟩:=Kp.res KF 2 2 zd 1 zb)))
    have h3:=h3.mono hk;exact tRFact_1
  · have hb:(s1==s2)=false:=by simp[hs]
    have hss:Hid (s1= !s2):=by show _=_;cases s1 <;> cases s2 <;> simp at hs ⊢
    clear hs;by_cases hlt:m1<m2
    · have hv:qJ (m1:Int) (m2:Int)= -1:=xV zb
      rw[hv]at hcm
      have Hz:Hid (z1+z2=if s2 then -((m2-m1:Nat):Int)else(m2-m1:Nat)):=by
        show _=_;rw[Hz1.out,Hz2.out,hss.out];cases s2 <;> simp <;> omega
      clear hv;obtain⟨_,q1,q2,q3,q4⟩:=KC.out _ K0;go_enter func51,ntmps51;go_wp2_with fail;rw[<-hW];clear hW;refine jC (hcm.out _ K0.ext) ?_;rintro e w0 ⟨rfl,e0⟩;have K1:=K0.after e0;clear q1 q2 q3 q4;obtain⟨_,q1,q2,q3,q4⟩:=KC.out _ K1;go_wp2_with fail
      go_region_held3 (λw'=>Kp w w' [(1, [.bool s2,.slice a2 n2 c2]),(0, [.bool s1,.slice a1 n1 c1])] [(2,2)]/\w'.cell? ⟨w.heap.size,0,none⟩=some (.bool s1)/\w'.cell? ⟨w.heap.size,1,none⟩=some (.slice a1 n1 c1)/\w'.cell? ⟨w.heap.size+1,0,none⟩=some (.bool s2)/\w'.cell? ⟨w.heap.size+1,1,none⟩=some (.slice a2 n2 c2)) ((go_split_ands;refine KC.out _ ?_;first|assumption|exact Kp.drew zf|exact Kp.drew (Kp.drewN zf _)|exact Kp.after zf zf|exact(Kp.put2 zf 2 zd _ _ _ _ zd).1))
        (first
          | (go_at_call 75;go_must (go_split_ands;(with_reducible refine jC (minus_c _ _ _ _ _ _ _ k2 k1 m2 m1 ?_ ?_ zb zb) ?_);exact h2.ext (Kp.ext zf);exact h1.ext (Kp.ext zf);rintro e w1 ⟨x0,rfl,e1,ao,n,cap,xs,rfl,hm,hk,hv⟩;have Hv:=hid hv;clear hv))
          | (go_at_call 59;go_must (go_split_ands;(with_reducible refine jC (rmade_c _ _ _ _ _ xs (z1+z2) hm ?_) ?_);rw[Hv.out];exact Hz.out;rintro e w2 ⟨s3,a3,n3,c3,rfl,e2,h3⟩;have KF:=Kp.after zf e2;obtain⟨⟨_,r0,_⟩,f0⟩:=Kp.res KF 2 2 zd 0 zb;obtain⟨⟨_,r1,_⟩,f1⟩:=Kp.res KF 2 2 zd 1 zb)))
      have h3:=h3.mono (show n<=max k1 k2+1 by omega);exact tRFact_1
    · have hv:∃c:Int,qJ (m1:Int) (m2:Int)=c/\0<=c:=by
        rcases Nat.eq_or_lt_of_le (show m2<=m1 by omega)with h|h
        ·exact⟨0,cmpI_eq zb,by omega⟩
        ·exact⟨1,xX zb,by omega⟩
      obtain⟨c,hv,hc0⟩:=hv;rw[hv]at hcm
      have Hz:Hid (z1+z2=if s1 then -((m1-m2:Nat):Int)else(m1-m2:Nat)):=by
        show _=_;rw[Hz1.out,Hz2.out,hss.out];cases s2 <;> simp <;> omega
      clear hv;obtain⟨_,q1,q2,q3,q4⟩:=KC.out _ K0;go_enter func51,ntmps51;go_wp2_with fail;rw[<-hW];clear hW;refine jC (hcm.out _ K0.ext) ?_;rintro e w0 ⟨rfl,e0⟩;have K1:=K0.after e0;clear q1 q2 q3 q4;obtain⟨_,q1,q2,q3,q4⟩:=KC.out _ K1;go_wp2_with fail
      go_region_held3 (λw'=>Kp w w' [(1, [.bool s2,.slice a2 n2 c2]),(0, [.bool s1,.slice a1 n1 c1])] [(2,2)]/\w'.cell? ⟨w.heap.size,0,none⟩=some (.bool s1)/\w'.cell? ⟨w.heap.size,1,none⟩=some (.slice a1 n1 c1)/\w'.cell? ⟨w.heap.size+1,0,none⟩=some (.bool s2)/\w'.cell? ⟨w.heap.size+1,1,none⟩=some (.slice a2 n2 c2)) ((go_split_ands;refine KC.out _ ?_;first|assumption|exact Kp.drew zf|exact Kp.drew (Kp.drewN zf _)|exact Kp.after zf zf|exact(Kp.put2 zf 2 zd _ _ _ _ zd).1))
        (first
          | (go_at_call 75;go_must (go_split_ands;(with_reducible refine jC (minus_c _ _ _ _ _ _ _ k1 k2 m1 m2 ?_ ?_ zb zb) ?_);exact h1.ext (Kp.ext zf);exact h2.ext (Kp.ext zf);rintro e w1 ⟨x0,rfl,e1,ao,n,cap,xs,rfl,hm,hk,hv⟩;have Hv:=hid hv;clear hv))
          | (go_at_call 59;go_must (go_split_ands;(with_reducible refine jC (rmade_c _ _ _ _ _ xs (z1+z2) hm ?_) ?_);rw[Hv.out];exact Hz.out;rintro e w2 ⟨s3,a3,n3,c3,rfl,e2,h3⟩;have KF:=Kp.after zf e2;obtain⟨⟨_,r0,_⟩,f0⟩:=Kp.res KF 2 2 zd 0 zb;obtain⟨⟨_,r1,_⟩,f1⟩:=Kp.res KF 2 2 zd 1 zb)))
      have h3:=h3.mono (show n<=max k1 k2+1 by omega);exact tRFact_1
theorem RSub_c(w:World)(s1 s2:Bool)(a1 a2:Option Addr)(n1 n2 c1 c2 k1 k2:Nat)(z1 z2:Int)(h1:IntAt w k1 s1 a1 n1 c1 z1)(h2:IntAt w k2 s2 a2 n2 c2 z2)(l1:k1<=268435456)(l2:k2<=268435456):
    Calls prog 52 #[.agg #[.bool s1,.slice a1 n1 c1],.agg #[.bool s2,.slice a2 n2 c2]] w (RInt w (max k1 k2+1) (z1-z2)):=by
  obtain⟨W,hW,K0⟩:=kp2 w s1 s2 a1 a2 n1 n2 c1 c2;have KC:=hid (kc2 w s1 s2 a1 a2 n1 n2 c1 c2);go_enter func52,ntmps52;go_wp2_with fail;rw[<-hW];clear hW
  go_region_held3 (λw'=>Kp w w' [(1, [.bool s2,.slice a2 n2 c2]),(0, [.bool s1,.slice a1 n1 c1])] [(2,2)]/\w'.cell? ⟨w.heap.size,0,none⟩=some (.bool s1)/\w'.cell? ⟨w.heap.size,1,none⟩=some (.slice a1 n1 c1)/\w'.cell? ⟨w.heap.size+1,0,none⟩=some (.bool s2)/\w'.cell? ⟨w.heap.size+1,1,none⟩=some (.slice a2 n2 c2)) ((go_split_ands;refine KC.out _ ?_;first|assumption|exact Kp.drew zf|exact Kp.drew (Kp.drewN zf _)|exact Kp.after zf zf|exact(Kp.put2 zf 2 zd _ _ _ _ zd).1))
    (first
      | (go_at_call 76;go_must (go_split_ands;(with_reducible refine jC (RNeg_c _ _ _ _ _ k2 z2 ?_) ?_);exact h2.ext (Kp.ext zf);rintro e w1 ⟨s4,a4,n4,c4,rfl,e1,h4⟩))
      | (go_at_call 51;go_must (go_split_ands;(with_reducible refine jC (RAdd_c _ _ _ _ _ _ _ _ _ k1 k2 z1 (-z2) ?_ ?_ zb zb) ?_);exact h1.ext (Kp.ext zf);exact h4;rintro e w2 ⟨s3,a3,n3,c3,rfl,e2,h3⟩;have KF:=Kp.after zf e2;obtain⟨⟨_,r0,_⟩,f0⟩:=Kp.res KF 2 2 zd 0 zb;obtain⟨⟨_,r1,_⟩,f1⟩:=Kp.res KF 2 2 zd 1 zb)))
  rw[<-Int.sub_eq_add_neg]at h3;go_wp2_with fail;refine jD (v:=.agg #[.bool s3,.slice a3 n3 c3]) (by simp[results,results52,go_sem,r0,r1]) rfl (Kp.fin KF 2 zd zd h3)
theorem rcmp_math(s1 s2:Bool)(m1 m2:Nat)(z1 z2:Int)(h1:z1=if s1 then -(m1:Int)else m1)(h2:z2=if s2 then -(m2:Int)else m2)
    (t1:m1=0->s1=false) (t2:m2=0->s2=false):(s1=true->s2=false->qJ z1 z2= -1)/\(s1=false->s2=true->qJ z1 z2=1)/\(s1=true->s2=true->qJ z1 z2=qJ m2 m1)/\(s1=false->s2=false->qJ z1 z2=qJ m1 m2):=by
  simp only[qJ];cases s1 <;> cases s2 <;> simp at h1 h2 t1 t2 ⊢ <;>(repeat' split) <;> omega
theorem tRFact_3{P:Prop}(h:P:=by
  go_enter func37,ntmps37;go_wp2_with fail;rw[<-hW];clear hW;go_wp2_with fail
  go_ret
  exact⟨by rw[hr.out];rfl,E.out⟩
  ):P:=h
theorem RCmp_c(w:World)(s1 s2:Bool)(a1 a2:Option Addr)(n1 n2 c1 c2 k1 k2:Nat)(z1 z2:Int)(h1:IntAt w k1 s1 a1 n1 c1 z1)(h2:IntAt w k2 s2 a2 n2 c2 z2)(l1:k1<=268435456)(l2:k2<=268435456):Calls prog 37 #[.agg #[.bool s1,.slice a1 n1 c1],.agg #[.bool s2,.slice a2 n2 c2]] w (RVal w (.int .i64 (qJ z1 z2))):=by
  obtain⟨W,hW,K0⟩:=kq20 w s1 s2 a1 a2 n1 n2 c1 c2;have b2:=K0.bx w.heap.size s1 a1 n1 c1 zd;have b3:=K0.bx (w.heap.size+1) s2 a2 n2 c2 zd;have E:=hid K0.ext;obtain⟨m1,g1,t1,e1⟩:=h1;obtain⟨m2,g2,t2,e2⟩:=h2;have HM:=hid (rcmp_math s1 s2 m1 m2 z1 z2 e1 e2 (λh=>t1 (g1.zero.1 h)) (λh=>t2 (g2.zero.1 h)));have C1:=hid (rsize_c W a1 a2 n1 n2 c1 c2 k1 k2 m1 m2 (g1.ext K0.ext) (g2.ext K0.ext) zb);have C2:=hid (rsize_c W a2 a1 n2 n1 c2 c1 k2 k1 m2 m1 (g2.ext K0.ext) (g1.ext K0.ext) zb);have F1:=b2.c0;have F2:=b2.c1;have F3:=b2.f0;have F4:=b2.f1;have G1:=b3.c0;have G2:=b3.c1;have G3:=b3.f0;have G4:=b3.f1;obtain⟨r,hr⟩:∃r,r=qJ z1 z2:=⟨_,rfl⟩;rw[<-hr]at HM ⊢;clear K0 e1 e2 t1 t2 g1 g2 hr b2 b3;cases s1 <;> cases s2
  · have hr:=hid (HM.out.2.2.2 rfl rfl)
    go_enter func37,ntmps37;go_wp2_with fail;rw[<-hW];clear hW;go_wp2_with fail;refine jC C1.out ?_;rintro e w1 ⟨rfl,e1⟩;go_wp2_with fail
    go_ret
    exact⟨by rw[hr.out];rfl,E.out.trans e1⟩
  · have hr:=hid (HM.out.2.1 rfl rfl)
    exact tRFact_3
  · have hr:=hid (HM.out.1 rfl rfl)
    exact tRFact_3
  · have hr:=hid (HM.out.2.2.1 rfl rfl)
    go_enter func37,ntmps37;go_wp2_with fail;rw[<-hW];clear hW;go_wp2_with fail;refine jC C2.out ?_;rintro e w1 ⟨rfl,e1⟩;go_wp2_with fail
    go_ret
    exact⟨by rw[hr.out];rfl,E.out.trans e1⟩
theorem rmul_sign(s1 s2:Bool)(m1 m2:Nat)(z1 z2:Int)(h1:z1=if s1 then -(m1:Int)else m1)(h2:z2=if s2 then -(m2:Int)else m2):z1*z2=if (s1 !=s2)then -((m1*m2:Nat):Int)else((m1*m2:Nat):Int):=by
  rw[h1,h2];cases s1 <;> cases s2 <;> simp[Int.neg_mul,Int.mul_neg]
theorem MulInv.drewN{w0 wr:World}{g N z e r:Nat}(h:MulInv w0 g N z e r wr)(n:Nat):MulInv w0 g N z e r (wr.drewN n):=by
  obtain⟨ys,h1,h2,h3,h4,h5,h6⟩:=h;exact⟨ys,h1.ext ((Ext.refl _).drewN n),h2,h3,h4,h5,h6.drewN n⟩
theorem drewN_set(w:World)(p:Addr)(v:Value):∀n,(w.drewN n).setCell p v=(w.setCell p v).drewN n
  |0=>rfl
  | n+1=>by
    show((w.drewN n).drew).setCell p v=((w.setCell p v).drewN n).drew;rw[<-drewN_set w p v n];rfl
theorem RMul_c (w:World) (s1 s2:Bool)(a1 a2:Option Addr)(n1 n2 c1 c2 k1 k2:Nat)(z1 z2:Int)(h1:IntAt w k1 s1 a1 n1 c1 z1)(h2:IntAt w k2 s2 a2 n2 c2 z2)(l1:k1<=268435456)(l2:k2<=268435456):Calls prog 53 #[.agg #[.bool s1,.slice a1 n1 c1],.agg #[.bool s2,.slice a2 n2 c2]] w (RInt w (k1+k2) (z1*z2)):=by
  obtain⟨W,hW,K0⟩:=kq21 w s1 s2 a1 a2 n1 n2 c1 c2;have b2:=hid (K0.bx w.heap.size s1 a1 n1 c1 zd);have b3:=hid (K0.bx (w.heap.size+1) s2 a2 n2 c2 zd);have b4:=hid (show Bx W (w.heap.size+1+1) false none 0 0 from K0.bx (w.heap.size+2) false none 0 0 zd);have E:=hid K0.ext;obtain⟨m1,⟨A,hA,lA,_,vA⟩,_,e1⟩:=h1;obtain⟨m2,⟨B,hB,lB,_,vB⟩,_,e2⟩:=h2;have HZ:=hid (rmul_sign s1 s2 m1 m2 z1 z2 e1 e2);rw[<-vA,<-vB]at HZ;have HW1:=hid (hA.ext K0.ext);have HW2:=hid (hB.ext K0.ext);have HA:=hid hA.lt;have HB:=hid hB.lt;have HlB:=hid hB.len;have HlA:=hid hA.len;have sh1:=hA.shape;have sh2:=hB.shape;have HK:=hid (show n1+n2<=k1+k2 by omega);have hn1:n1<=268435456:=zb
  have hn2:n2<=268435456:=zb
  clear K0 hA hB e1 e2 vA vB lA lB l1 l2;rcases sh1 with sh1| ⟨b1,off1,rfl,hb1⟩ <;> rcases sh2 with sh2| ⟨b2',off2,rfl,hb2⟩
  all_goals
    go_enter func53,ntmps53;go_upto_region 1 with fail;rw[<-hW];clear hW;have F1:=b2.out.c0;have F2:=b2.out.c1;have F3:=b2.out.f0;have F4:=b2.out.f1;have G1:=b3.out.c0;have G2:=b3.out.c1;have G3:=b3.out.f0;have G4:=b3.out.f1;go_wp2_with (at_make;refine wpl_make rfl _ _ _ rfl za _ _ (n1+n2) rfl rfl zb zb zb ?_;intro w1 e1 z1 o1)
    have I0:=hid (MulInv.start o1 e1 n2);clear o1 e1 z1 F1 F2 F3 F4 G1 G2 G3 G4
    go_loopw [6] (λi wr=>∃k:Nat,k<=n1/\i=.int .i64 k/\Hid (MulInv W W.heap.size (n1+n2) (k+n2) 0 (pv A k*qD B) wr)) (λi _=>n1-(intOf i).toNat)
    case atStart=>exact⟨0,by omega,rfl,by simpa [pv]using I0⟩
    case round=>
      clear I0;obtain⟨i,hi,rfl,hinv⟩:=hrel;by_cases hi1:i<n1
      · first
          | (exfalso;omega)
          | (obtain ⟨o0,hc0,ho0,hz0,hf0,hext,hst0⟩:=hinv.out.cell i zb
             have hxl:=HA.out i;clear hc0 ho0 hz0 hf0 hst0;generalize hxe:A.getD i 0=x at hxl;have Hxe:=hid hxe;clear hxe;have J0:=hid (MulInv.inner (x:=x) hinv.out);have F1:=(b2.out.ext hext).c0;have F2:=(b2.out.ext hext).c1;have F3:=(b2.out.ext hext).f0;have F4:=(b2.out.ext hext).f1;clear hinv hext;go_upto_region 7 with fail;clear F1 F2 F3 F4
             go_loopw [7,8] (λc j wi=>∃k cc:Nat,k<=n2/\cc<4294967296/\j=.int .i64 k/\c=.int .u64 cc/\Hid (MulInv W W.heap.size (n1+n2) (i+n2) (4294967296^(i+k)*cc) (pv A i*qD B+4294967296^i*x*pv B k) wi)) (λ_ j _=>n2-(intOf j).toNat)
             case atStart=>exact⟨0,0,by omega,by omega,rfl,rfl,J0⟩
             case round=>
               clear J0;obtain⟨k,cc,hk,hcc,rfl,rfl,hin⟩:=hrel;by_cases hk1:k<n2
               · first
                   | (exfalso;omega)
                   | (obtain⟨o,hco,hol,hz0,hfo,hexi,hsto⟩:=hin.out.cell (i+k) zb
                      have hcA:=(HW1.out.ext hexi).cell i hi1;have hcB:=(HW2.out.ext hexi).cell k hk1;rw[Hxe.out]at hcA;have hyl:=HB.out k;clear hz0 hin;generalize hye:B.getD k 0=y at hcB hyl;have Hye:=hid hye;clear hye;obtain⟨hp1,hp2⟩:=prod_lt x y o cc hxl hyl hol hcc;have Hst:=hid hsto;clear hsto;generalize hpe:x*y=p at hp1 hp2;have hpi:(x:Int)*(y:Int)=(p:Int):=by rw[<-hpe];simp
                      have Hpe:=hid hpe;clear hpe;have hq:(cc+(p+o))/4294967296<4294967296:=zb
                      have Hnew:=hid (Hst.out ((cc+(p+o))%4294967296) (i+n2) (4294967296^(i+(k+1))*((cc+(p+o))/4294967296)) (pv A i*qD B+4294967296^i*x*pv B (k+1)) zb (jJ _) (jJ _) zb
                        (mul_next _ i k x y o cc (cc+(p+o)) _ _ B (by rw[Hpe.out];omega) Hye.out))
                      clear Hst;have F1:=(b2.out.ext hexi).c0;have F2:=(b2.out.ext hexi).c1;have F3:=(b2.out.ext hexi).f0;have F4:=(b2.out.ext hexi).f1;have G1:=(b3.out.ext hexi).c0;have G2:=(b3.out.ext hexi).c1;have G3:=(b3.out.ext hexi).f0;have G4:=(b3.out.ext hexi).f1;go_wp2_with fail
                      go_quiet (fail)
                      go_wp2_with fail
                      go_roundw
                      case rel=>exact⟨k+1,_,by omega,hq,by go_num,by go_num,by rw[drewN_set];exact MulInv.drewN Hnew _⟩
                      case measure=>simp[intOf];omega)
               · obtain rfl:k=n2:=by omega
                 obtain⟨o,hco,hol,hz0,hfo,hexi,hsto⟩:=hin.out.cell (i+k) zb;have Hnew:=hid (hsto cc (i+1+k) 0 (pv A (i+1)*qD B) hcc (jJ _) zb zb (mul_end _ i k x o cc A B (hz0 (jJ _)) HlB.out Hxe.out));clear hsto hz0 hin;have G1:=(b3.out.ext hexi).c0;have G2:=(b3.out.ext hexi).c1;have G3:=(b3.out.ext hexi).f0;have G4:=(b3.out.ext hexi).f1;go_wp2_with fail
                 go_roundw
                 case rel=>exact⟨i+1,by omega,by go_num,Hnew⟩
                 case measure=>simp[intOf];omega)
      · obtain rfl:i=n1:=by omega
        have hinv2:=hinv.out;rw[xE A i (Nat.le_of_eq HlA.out)]at hinv2;obtain⟨o0,_,_,_,_,hext0,_⟩:∃o,o=0/\o=0/\o=0/\o=0/\Ext W wr/\True:=⟨0,rfl,rfl,rfl,rfl,by obtain⟨_,_,_,_,_,_,h⟩:=hinv2;exact h,trivial⟩;obtain⟨ys,hw,hv,hext⟩:=hinv2.fin zb;have HM:=hid (rmade_c wr (s1 !=s2) _ _ _ ys (z1*z2) hw (by rw[hv];exact HZ.out));clear hinv hinv2 hw hv;have F1:=(b2.out.ext hext).c0;have F2:=(b2.out.ext hext).c1;have F3:=(b2.out.ext hext).f0;have F4:=(b2.out.ext hext).f1;have G1:=(b3.out.ext hext).c0;have G2:=(b3.out.ext hext).c1;have G3:=(b3.out.ext hext).f0;have G4:=(b3.out.ext hext).f1;go_wp2_with fail;refine jC HM.out ?_;rintro e w3 ⟨s3,a3,n3,c3,rfl,e3,h3⟩;have B4:=b4.out.ext (hext.trans e3);have E3:=E.out.trans (hext.trans e3);clear F1 F2 F3 F4 G1 G2 G3 G4;have H1:=B4.c0;have H2:=B4.c1;have H3:=B4.f0;have H4:=B4.f1;go_wp2_with fail;obtain⟨w4,hW,b5,p⟩:=B4.put' s3 a3 n3 c3;rw[<-hW];clear hW;have T0:=b5.c0;have T1:=b5.c1;exact jD (v:=.agg #[.bool s3,.slice a3 n3 c3]) (by simp[results,results53,go_sem,T0,T1]) rfl ⟨_,_,_,_,rfl,E3.pt p zb,(h3.pt p).mono HK.out⟩
structure Qx (w:World) (g:Nat) (u v:Value):Prop where
  c0:w.cell? ⟨g,0,none⟩=some u
  c1:w.cell? ⟨g,1,none⟩=some v
  f0:w.frozen? ⟨g,0,none⟩=false
  f1:w.frozen? ⟨g,1,none⟩=false
  n0:NoWord u
  n1:NoWord v
theorem Qx.lt{w:World}{g:Nat}{u v:Value}(h:Qx w g u v):g<w.heap.size:=World.block_lt_of_cell? w ⟨g,0,none⟩ h.c0
theorem Qx.ext{w w':World}{g:Nat}{u v:Value}(h:Qx w g u v)(e:Ext w w'):Qx w' g u v:=
  ⟨e.cell h.c0,e.cell h.c1,(e.frozen h.lt).trans h.f0,(e.frozen h.lt).trans h.f1,h.n0,h.n1⟩
theorem Qx.put{w:World}{g:Nat}{u v:Value}(b:Qx w g u v)(u' v':Value)(hu:NoWord u')(hv:NoWord v'):
    ∃W,W=(w.setCell ⟨g,0,none⟩ u').setCell ⟨g,1,none⟩ v'/\Qx W g u' v'/\Gr w W/\(∀ {w0:World},Ext w0 w->w0.heap.size<=g->Ext w0 W)/\Upd g w W:=by
  refine⟨_,rfl,⟨?_,?_,?_,?_,hu,hv⟩,?_,λe hg=>(e.set hg _).set hg _,(Upd.set g 0 w u').trans (Upd.set g 1 _ v')⟩
  ·rw[World.cell?_setCell_other _ _ _ _ (by simp),World.cell?_setCell_same _ _ _ b.c0]
  · refine World.cell?_setCell_same _ _ _ (u:=v) ?_
    rw[World.cell?_setCell_other _ _ _ _ (by simp)];exact b.c1
  ·simp[b.f0]
  ·simp[b.f1]
  · refine((Gr.refl w).set b.c0 b.n0 _).set (p:=⟨g,1,none⟩) (u:=v) ?_ b.n1 _
    rw[World.cell?_setCell_other _ _ _ _ (by simp)];exact b.c1
def IsQt(k q r:Nat):Value->World->Prop:=λv w=>∃a b,v=.agg #[a,b]/\IsWk k q a w/\IsWk k r b w
theorem IsQt.stb(k q r:Nat):Stb (IsQt k q r):=λ_ _ _ e ⟨a,b,h1,h2,h3⟩=>⟨a,b,h1,IsWk.stb _ _ _ _ _ e h2,IsWk.stb _ _ _ _ _ e h3⟩
instance (k q r:Nat):StbC (IsQt k q r):=⟨IsQt.stb k q r⟩
theorem natVal_two(xs:List Nat)(h:xs.length<=2):qD xs=xs.getD 0 0+4294967296*xs.getD 1 0:=by
  match xs,h with
  | [],_=>rfl
  | [a],_=>simp[qD]
  | [a,b],_=>simp[qD]
  |_ ::_ ::_ ::_,h=>simp at h
theorem join_words(a b:Nat)(ha:a<4294967296)(hb:b<4294967296):bits .or .u64 (a:Int) ((b:Int)*4294967296)=((a+4294967296*b:Nat):Int):=by
  have h:=u64_or_nat a (b*4294967296) zb zb;have h32:(2:Nat)^32=4294967296:=by decide
  have h2:=nat_join 32 (b*4294967296) a (by rw[h32];omega) (by rw[h32];omega);rw[Nat.or_comm,h2,Nat.add_comm,Nat.mul_comm]at h;have e:((b:Int)*4294967296)=((4294967296*b:Nat):Int):=zb
  rw[e];exact h
theorem IsWk.new2(w:World)(a b:Nat)(ha:a<4294967296)(hb:b<4294967296):IsWk 2 (a+4294967296*b) (.slice (some ⟨w.heap.size,0,none⟩) 2 2) (w.alloc (.cells #[.int .u32 (a:Nat),.int .u32 (b:Nat)] 145)):=
  ⟨_,_,_, [a,b],rfl,wd_new2 w a b ha hb,jJ _,by simp[qD]⟩
theorem divide_small(w:World)(a1 a2:Option Addr)(n1 n2 c1 c2:Nat)(A B:List Nat)(h1:Wd w a1 n1 c1 A)(h2:Wd w a2 n2 c2 B)(s1:n1<=2)(s2:n2<=2)(hy:0<qD B):
    Calls prog 174 #[.slice a1 n1 c1,.slice a2 n2 c2] w (Ret w (IsQt 2 (qD A/qD B) (qD A%qD B))):=by
  obtain⟨W,hW,b4,E⟩:∃W,W=w.alloc (.cells #[.slice none 0 0,.slice none 0 0] 270)/\Qx W w.heap.size (.slice none 0 0) (.slice none 0 0)/\Ext w W:=
    ⟨_,rfl,⟨by simp,by simp,by simp,by simp,NoWord.slice _ _ _,NoWord.slice _ _ _⟩,(Ext.refl w).alloc _⟩
  have b4:=hid b4;have E:=hid E;have eA:=natVal_two A (by rw[h1.len];exact s1);have eB:=natVal_two B (by rw[h2.len];exact s2);have HA0:=hid (word_c W a1 n1 c1 A (h1.ext E.out) 0 dcx);have HA1:=hid (word_c W a1 n1 c1 A (h1.ext E.out) 1 dcx);have HB0:=hid (word_c W a2 n2 c2 B (h2.ext E.out) 0 dcx);have HB1:=hid (word_c W a2 n2 c2 B (h2.ext E.out) 1 dcx);have la0:=h1.lt 0;have la1:=h1.lt 1;have lb0:=h2.lt 0;have lb1:=h2.lt 1;generalize A.getD 0 0=x0 at*;generalize A.getD 1 0=x1 at*;generalize B.getD 0 0=y0 at*;generalize B.getD 1 0=y1 at*;have j1:=join_words x0 x1 la0 la1;have j2:=join_words y0 y1 lb0 lb1;rw[<-eA]at j1;rw[<-eB]at j2;have lx:qD A<18446744073709551616:=zb
  have ly:qD B<18446744073709551616:=zb
  generalize qD A=X at*;generalize qD B=Y at*;obtain⟨Q,hQ⟩:∃Q,Q=X/Y:=⟨_,rfl⟩;obtain⟨R,hR⟩:∃R,R=X%Y:=⟨_,rfl⟩;have qi:(X:Int)/(Y:Int)=(Q:Int):=by rw[hQ];simp
  have ri:(X:Int)%(Y:Int)=(R:Int):=by rw[hR];simp
  have rt:(X:Int).tmod (Y:Int)=(R:Int):=by rw[Int.tmod_eq_emod_of_nonneg (by omega)];exact ri
  have lQ:Q<18446744073709551616:=by rw[hQ];exact Nat.lt_of_le_of_lt (Nat.div_le_self _ _) lx
  have lR:R<18446744073709551616:=by rw[hR];exact Nat.lt_of_le_of_lt (Nat.mod_le _ _) lx
  have hy0:¬(Y:Int)=0:=zb
  have hy1:¬Y=0:=zb
  obtain⟨q0,hq0⟩:∃q0,q0=Q%4294967296:=⟨_,rfl⟩;obtain⟨q1,hq1⟩:∃q1,q1=Q/4294967296:=⟨_,rfl⟩;obtain⟨r0,hr0⟩:∃r0,r0=R%4294967296:=⟨_,rfl⟩;obtain⟨r1,hr1⟩:∃r1,r1=R/4294967296:=⟨_,rfl⟩;have hQ2:=hid (show q0+4294967296*q1=X/Y by omega);have hR2:=hid (show r0+4294967296*r1=X%Y by omega);have e1:(Q:Int)%4294967296=(q0:Int):=zb
  have e2:(Q:Int)/4294967296=(q1:Int):=zb
  have e3:(R:Int)%4294967296=(r0:Int):=zb
  have e4:(R:Int)/4294967296=(r1:Int):=zb
  have e5:IntKind.u32.wrap (Q:Int)=(q0:Int):=by rw[<-e1];rfl
  have e6:IntKind.u32.wrap (q1:Int)=(q1:Int):=by show(q1:Int)%4294967296=_;omega
  have e7:IntKind.u32.wrap (R:Int)=(r0:Int):=by rw[<-e3];rfl
  have e8:IntKind.u32.wrap (r1:Int)=(r1:Int):=by show(r1:Int)%4294967296=_;omega
  have e9:IntKind.u64.wrap (Q:Int)=(Q:Int):=by simp only[IntKind.wrap_u64];omega
  have e10:IntKind.u64.wrap (R:Int)=(R:Int):=by simp only[IntKind.wrap_u64];omega
  have l0:q0<4294967296:=zb
  have l1:q1<4294967296:=zb
  have l2:r0<4294967296:=zb
  have l3:r1<4294967296:=zb
  clear h1 h2 eA eB hQ hR hq0 hq1 hr0 hr1;go_enter func174,ntmps174;go_upto_region 1 with fail;rw[<-hW];clear hW;go_wp2_with fail;refine jC HA0.out ?_;rintro e w1 ⟨rfl,rfl⟩;go_wp2_with fail;refine jC HA1.out ?_;rintro e w1 ⟨rfl,rfl⟩;go_wp2_with fail;refine jC HB0.out ?_;rintro e w1 ⟨rfl,rfl⟩;go_wp2_with fail;refine jC HB1.out ?_;rintro e w1 ⟨rfl,rfl⟩;go_upto_region 4 with fail
  refine qS 21 [some 32,some 33,some 34,some 35,some 36,some 37,some 38,some 39,some 40,some 41,some 42,some 43,some 44,some 45,some 46,some 47,some 48,some 49,some 50,some 51,some 52]
    [IsV (.int .u64 X),IsV (.int .u64 Y),IsV (.int .u64 Q),IsV (.int .u32 q0),IsV (.int .u64 X),IsV (.int .u64 Y),IsV (.int .u64 Q),IsV (.int .u64 q1),IsV (.int .u32 q1),IsWk 2 (q0+4294967296*q1),
     IsV (.int .u64 X),IsV (.int .u64 Y),IsV (.int .u64 R),IsV (.int .u32 r0),IsV (.int .u64 X),IsV (.int .u64 Y),IsV (.int .u64 R),IsV (.int .u64 r1),IsV (.int .u32 r1),IsWk 2 (r0+4294967296*r1),IsQt 2 (X/Y) (X%Y)] [] 1 za dcx za za za za za ?_ (λ_ h=>by cases h) ?_ ?_
  ·repeat' (first|exact trivial|exact IsV.stb _|exact IsWk.stb _ _|exact IsQt.stb _ _ _|apply jI)
  · refine RgAll.cons zc ?_
    refine RgAll.cons zc ?_;refine RgAll.cons (by{intro v w' hE hd;simp only[lxE,Nat.reduceAdd];have d0:v 0=.int .u64 X:=hd 0 za;have d1:v 1=.int .u64 Y:=hd 1 za;rw[d0,d1];intro K hK;go_simp;exact hK.out _ _ (Ext.refl _) rfl (FreshIf.no rfl)}) ?_;refine RgAll.cons (by{intro v w' hE hd;simp only[lxE,Nat.reduceAdd];have d0:v 2=.int .u64 Q:=hd 2 za;rw[d0];intro K hK;go_simp;exact hK.out _ _ (Ext.refl _) rfl (FreshIf.no rfl)}) ?_;refine RgAll.cons zc ?_;refine RgAll.cons zc ?_;refine RgAll.cons (by{intro v w' hE hd;simp only[lxE,Nat.reduceAdd];have d0:v 4=.int .u64 X:=hd 4 za;have d1:v 5=.int .u64 Y:=hd 5 za;rw[d0,d1];intro K hK;go_simp;exact hK.out _ _ (Ext.refl _) rfl (FreshIf.no rfl)}) ?_;refine RgAll.cons (by{intro v w' hE hd;simp only[lxE,Nat.reduceAdd];have d0:v 6=.int .u64 Q:=hd 6 za;rw[d0];intro K hK;go_simp;exact hK.out _ _ (Ext.refl _) rfl (FreshIf.no rfl)}) ?_;refine RgAll.cons (by{intro v w' hE hd;simp only[lxE,Nat.reduceAdd];have d0:v 7=.int .u64 q1:=hd 7 za;rw[d0];intro K hK;go_simp;exact hK.out _ _ (Ext.refl _) rfl (FreshIf.no rfl)}) ?_;refine RgAll.cons (by{intro v w' hE hd;simp only[lxE,Nat.reduceAdd];have d0:v 3=.int .u32 q0:=hd 3 za;have d1:v 8=.int .u32 q1:=hd 8 za;rw[d0,d1];intro K hK;go_simp;exact hK.out _ _ ((Ext.refl _).alloc _) (IsWk.new2 w' q0 q1 l0 l1) (FreshIf.no rfl)}) ?_;refine RgAll.cons zc ?_;refine RgAll.cons zc ?_;refine RgAll.cons (by{intro v w' hE hd;simp only[lxE,Nat.reduceAdd];have d0:v 10=.int .u64 X:=hd 10 za;have d1:v 11=.int .u64 Y:=hd 11 za;rw[d0,d1];intro K hK;go_simp;exact hK.out _ _ (Ext.refl _) rfl (FreshIf.no rfl)}) ?_;refine RgAll.cons (by{intro v w' hE hd;simp only[lxE,Nat.reduceAdd];have d0:v 12=.int .u64 R:=hd 12 za;rw[d0];intro K hK;go_simp;exact hK.out _ _ (Ext.refl _) rfl (FreshIf.no rfl)}) ?_
    refine RgAll.cons zc ?_;refine RgAll.cons zc ?_;refine RgAll.cons (by{intro v w' hE hd;simp only[lxE,Nat.reduceAdd];have d0:v 14=.int .u64 X:=hd 14 za;have d1:v 15=.int .u64 Y:=hd 15 za;rw[d0,d1];intro K hK;go_simp;exact hK.out _ _ (Ext.refl _) rfl (FreshIf.no rfl)}) ?_;refine RgAll.cons (by{intro v w' hE hd;simp only[lxE,Nat.reduceAdd];have d0:v 16=.int .u64 R:=hd 16 za;rw[d0];intro K hK;go_simp;exact hK.out _ _ (Ext.refl _) rfl (FreshIf.no rfl)}) ?_;refine RgAll.cons (by{intro v w' hE hd;simp only[lxE,Nat.reduceAdd];have d0:v 17=.int .u64 r1:=hd 17 za;rw[d0];intro K hK;go_simp;exact hK.out _ _ (Ext.refl _) rfl (FreshIf.no rfl)}) ?_;refine RgAll.cons (by{intro v w' hE hd;simp only[lxE,Nat.reduceAdd];have d0:v 13=.int .u32 r0:=hd 13 za;have d1:v 18=.int .u32 r1:=hd 18 za;rw[d0,d1];intro K hK;go_simp;exact hK.out _ _ ((Ext.refl _).alloc _) (IsWk.new2 w' r0 r1 l2 l3) (FreshIf.no rfl)}) ?_;refine RgAll.cons (by{intro v w' hE hd;simp only[lxE,Nat.reduceAdd];have d0:IsWk 2 (q0+4294967296*q1) (v 9) w':=hd 9 za;have d1:IsWk 2 (r0+4294967296*r1) (v 19) w':=hd 19 za;rw[hQ2.out]at d0;rw[hR2.out]at d1;obtain⟨a9,n9,c9,x9,z0,h9⟩:=d0;obtain⟨a8,n8,c8,x8,z1,h8⟩:=d1;rw[z0,z1];intro K hK;go_simp;exact hK.out _ _ (Ext.refl _) ⟨_,_,rfl,⟨_,_,_,_,rfl,h9⟩,⟨_,_,_,_,rfl,h8⟩⟩ (FreshIf.no rfl)}) ?_;exact rn0
  intro v w1 e1 hZ _;have d20:IsQt 2 (X/Y) (X%Y) (v 20) w1:=hZ 20 dcx;obtain⟨sa,sb,v20,⟨a9,n9,c9,x9,rfl,h9⟩,⟨a8,n8,c8,x8,rfl,h8⟩⟩:=d20;have b4:=b4.out.ext e1;have E:=E.out.trans e1;simp only[lxE,Nat.reduceAdd];rw[v20];clear v20 hZ;have F1:=b4.c0;have F2:=b4.c1;have F3:=b4.f0;have F4:=b4.f1;refine wpAny_ready (rs:= [21]) za zd (AllReady.cons rfl (λK hK=>?_) AllReady.nil);go_simp;refine hK _ _ ?_;clear hK K;clear F1 F2 F3 F4;obtain⟨w2,hW,b4,g4,x4,_⟩:=b4.put (.slice a9 n9 c9) (.slice a8 n8 c8) (NoWord.slice _ _ _) (NoWord.slice _ _ _);rw[<-hW];clear hW;refine jL za ?_ _;have T0:=b4.c0;have T1:=b4.c1;go_wp2_with fail;exact jD (v:=.agg #[.slice a9 n9 c9,.slice a8 n8 c8]) (by simp[results,results174,go_sem,T0,T1]) rfl ⟨_,rfl,x4 E (jJ _),_,_,rfl,⟨_,_,_,_,rfl,h9.1.gr g4,h9.2⟩,⟨_,_,_,_,rfl,h8.1.gr g4,h8.2⟩⟩
theorem divide_c(w:World)(a1 a2:Option Addr)(n1 n2 c1 c2 k1 k2 x y:Nat)(h1:NatAt w k1 a1 n1 c1 x)(h2:NatAt w k2 a2 n2 c2 y)(l1:k1<=2)(l2:k2<=2)(hy:0<y):
    Calls prog 174 #[.slice a1 n1 c1,.slice a2 n2 c2] w (Ret w (IsQt (k1+2) (x/y) (x%y))):=by
  by_cases hs:n1<=2/\n2<=2
  · obtain⟨A,wA,_,_,rfl⟩:=h1
    obtain⟨B,wB,_,_,rfl⟩:=h2;refine(divide_small w a1 a2 n1 n2 c1 c2 A B wA wB hs.1 hs.2 hy).mono ?_;rintro e w' ⟨v,rfl,e1,a,b,rfl,⟨a9,n9,c9,x9,rfl,h9⟩,⟨a8,n8,c8,x8,rfl,h8⟩⟩;exact⟨_,rfl,e1,_,_,rfl,⟨_,_,_,_,rfl,h9.1,by omega,h9.2.2⟩,⟨_,_,_,_,rfl,h8.1,by omega,h8.2.2⟩⟩
  · obtain⟨A,wA,hA,_,_⟩:=h1
    obtain⟨B,wB,hB,_,_⟩:=h2;exact absurd ⟨jK hA l1,jK hB l2⟩ hs
theorem RAdd_f{k1 k2:Nat}{z1 z2:Int}{x y:Value}{w:World}(hx:IsI k1 z1 x w)(hy:IsI k2 z2 y w)(l1:k1<=268435456)(l2:k2<=268435456):Calls prog 51 #[x,y] w (Ret w (IsI (max k1 k2+1) (z1+z2))):=by
  obtain⟨s,a,n,c,rfl,h1⟩:=hx;obtain⟨s',a',n',c',rfl,h2⟩:=hy;exact jC (RAdd_c w s s' a a' n n' c c' k1 k2 z1 z2 h1 h2 l1 l2) λ_ _ h=>h.ret
theorem RSub_f{k1 k2:Nat}{z1 z2:Int}{x y:Value}{w:World}(hx:IsI k1 z1 x w)(hy:IsI k2 z2 y w)(l1:k1<=268435456)(l2:k2<=268435456):Calls prog 52 #[x,y] w (Ret w (IsI (max k1 k2+1) (z1-z2))):=by
  obtain⟨s,a,n,c,rfl,h1⟩:=hx;obtain⟨s',a',n',c',rfl,h2⟩:=hy;exact jC (RSub_c w s s' a a' n n' c c' k1 k2 z1 z2 h1 h2 l1 l2) λ_ _ h=>h.ret
theorem RMul_f{k1 k2:Nat}{z1 z2:Int}{x y:Value}{w:World}(hx:IsI k1 z1 x w)(hy:IsI k2 z2 y w)(l1:k1<=268435456)(l2:k2<=268435456):Calls prog 53 #[x,y] w (Ret w (IsI (k1+k2) (z1*z2))):=by
  obtain⟨s,a,n,c,rfl,h1⟩:=hx;obtain⟨s',a',n',c',rfl,h2⟩:=hy;exact jC (RMul_c w s s' a a' n n' c c' k1 k2 z1 z2 h1 h2 l1 l2) λ_ _ h=>h.ret
theorem RCmp_f{k1 k2:Nat}{z1 z2:Int}{x y:Value}{w:World}(hx:IsI k1 z1 x w)(hy:IsI k2 z2 y w)(l1:k1<=268435456)(l2:k2<=268435456):Calls prog 37 #[x,y] w (Ret w (iV (qJ z1 z2))):=by
  obtain⟨s,a,n,c,rfl,h1⟩:=hx;obtain⟨s',a',n',c',rfl,h2⟩:=hy;exact jC (RCmp_c w s s' a a' n n' c c' k1 k2 z1 z2 h1 h2 l1 l2) λ_ _ h=>h.ret
theorem RAbs_f{k1:Nat}{z1:Int}{x:Value}{w:World}(hx:IsI k1 z1 x w):Calls prog 124 #[x] w (Ret w (IsI k1 z1.natAbs)):=by
  obtain⟨s,a,n,c,rfl,h1⟩:=hx;exact jC (RAbs_c w s a n c k1 z1 h1) λ_ _ h=>h.ret
theorem RSign_f{k1:Nat}{z1:Int}{x:Value}{w:World}(hx:IsI k1 z1 x w):Calls prog 91 #[x] w (Ret w (iV z1.sign)):=by
  obtain⟨s,a,n,c,rfl,h1⟩:=hx;exact jC (RSign_c w s a n c k1 z1 h1) λ_ _ h=>h.ret
theorem IsI.int{k:Nat}{z:Int}{w:World}{s:Bool}{a:Option Addr}{n c:Nat}(h:IsI k z (.agg #[.bool s,.slice a n c]) w):IntAt w k s a n c z:=by
  obtain⟨s',a',n',c',h1,h2⟩:=h;simp only[Value.agg.injEq,Array.mk.injEq,List.cons.injEq,Value.bool.injEq,Value.slice.injEq,and_true]at h1;obtain⟨rfl,rfl,rfl,rfl⟩:=h1;exact h2
theorem IsI.neg'{k:Nat}{z:Int}{w:World}{s:Bool}{a:Option Addr}{n c:Nat}(h:IsI k z (.agg #[.bool s,.slice a n c]) w)(hz:z<0):s=true:=h.int.neg_iff.1 hz
theorem IsI.pos'{k:Nat}{z:Int}{w:World}{s:Bool}{a:Option Addr}{n c:Nat}(h:IsI k z (.agg #[.bool s,.slice a n c]) w)(hz:0<=z):s=false:=by
  cases s
  ·rfl
  ·have:=h.int.neg_iff.2 rfl;omega
theorem St.ne{w0 w:World}{B:List (Nat×(Value->World->Prop))}(h:St w0 w B)(i j:Nat)(p q:Nat×(Value->World->Prop))(hi:B[i]? =some p)(hj:B[j]? =some q)(hij:i≠j):p.1≠q.1:=by
  obtain⟨hi1,hi2⟩:=List.getElem?_eq_some_iff.1 hi;obtain⟨hj1,hj2⟩:=List.getElem?_eq_some_iff.1 hj;rcases Nat.lt_or_gt_of_ne hij with hlt|hlt
  · have:=List.pairwise_iff_getElem.1 h.apart i j hi1 hj1 hlt
    rwa [hi2,hj2]at this
  · have:=List.pairwise_iff_getElem.1 h.apart j i hj1 hi1 hlt
    rw[hi2,hj2]at this;exact this.symm
end
end Go.Proofs.YtkeikfekkdplgaaGreatDoor
