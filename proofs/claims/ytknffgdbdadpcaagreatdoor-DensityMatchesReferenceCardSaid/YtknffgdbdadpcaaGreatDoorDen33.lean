/-
 The reference's Kronecker, for a lower number above 0. (Printed by wip/gen/den33.py.)
-/
import Derived.Test.YtknffgdbdadpcaaGreatDoorDen23
import Derived.Test.YtknffgdbdadpcaaGreatDoorJac
namespace Go.Proofs.YtknffgdbdadpcaaGreatDoor
open Go Go.RowKit
open Go.Proofs.Tryz
theorem zeu{P:Prop}(h:P:=by exact cl2 (en func26) (qA (fP:=IsI k2 ((nn:Int))) 0 67) (qA (fP:=IsI 2 1) 1 68) (λx0 x1 w' hE d0 d1=>(by have hh:=Same_f d0 d1 jo;rw[HONE.out]at hh;exact hh))):P:=h
theorem ze6{P:Prop}(h:P:=by exact cl2 (en func91) (qA (fP:=IsI k2 ((b:Int))) 0 42) qE (λx0 x1 w' hE d0 d1=>by{obtain rfl:x1=.int .i64 2:=d1;exact js})):P:=h
theorem je{P:Prop}(h:P:=by exact cl2 (en func91) (qA (fP:=IsI k1 z) 0 4) qE (λx0 x1 w' hE d0 d1=>by{obtain rfl:x1=.int .i64 8:=d1;exact(by have hh:=jU d0 8 HK.out dcx;rw[show z%((8:Nat):Int)=r from HR.out]at hh;exact hh)})):P:=h
theorem js{P:Prop}(h:P:=by have hh:=jU d0 2 HK.out.2 dcx;rw[show _=_ from HM2.out]at hh;exact hh):P:=h
theorem zad{P:Prop}(h:P:=by exact cl2 (en func91) (qA (fP:=IsI k2 ((b:Int))) 0 52) qE (λx0 x1 w' hE d0 d1=>by{obtain rfl:x1=.int .i64 4:=d1;exact(by have hh:=jU d0 4 HK.out.2 dcx;rw[show _=_ from HB4.out]at hh;exact hh)})):P:=h
theorem zag{P:Prop}(h:P:=by exact cl1 (en func22) qE (λx0 w' hE d0=>by{obtain rfl:x0=.int .i64 2:=d0;exact qL _ 2 dcx dcx})):P:=h
theorem zal{P:Prop}(h:P:=by exact cl2 (en func94) (qA (fP:=IsI k2 ((nn:Int))) 0 62) (qA (fP:=IsI k2 ((b:Int))) 1 63) (λx0 x1 w' hE d0 d1=>zC (RMod_f d0 d1 HK.out.2 HK.out.2 HBZ.out) λ_ _ h=>h.eqz HNM.out)):P:=h
theorem zbb{P:Prop}(h:P:=by exact bn (r:=.int .i64 r2) (qC 0 6) qE (hr:=λw=>by have hx9:=H2.out;go_simp)):P:=h
theorem zb3{P:Prop}(h:P:=by exact cl1 (en func65) (qA (fP:=IsI k2 (((0:Nat):Int))) 0 39) (λx0 w' hE d0=>zC (xN d0) λ_ _ h=>h.int HS0.out)):P:=h
theorem zcw{P:Prop}(h:P:=by exact bn (r:=.bool e3) (qC 1 53) qE (hr:=λw=>by have hx9:=HE3.out.1;have hx8:=HE3.out.2;go_simp)):P:=h
theorem zdk{P:Prop}(h:P:=by have hh:=jU d0 4 HK.out.2 dcx;rw[show _=_ from HN4.out]at hh;exact hh):P:=h
set_option maxRecDepth 100000
set_option maxHeartbeats 16000000
theorem jU{k1:Nat}{z:Int}{x:Value}{w:World}(hx:IsI k1 z x w)(m:Nat)(l1:k1<=67108864)(hm:0<m/\m<=1000):Calls prog 91 #[x,.int .i64 (m:Int)] w (Ret w (iV (z%(m:Int)))):=by
 have hnn:=Int.emod_nonneg z (show(m:Int)≠0 by omega);have hlt:=Int.emod_lt_of_pos z (show(0:Int)<(m:Int)by omega);obtain⟨r,hr⟩:∃r:Nat,z%(m:Int)=(r:Int):=⟨(z%(m:Int)).toNat,(Int.toNat_of_nonneg hnn).symm⟩;rw[hr]at hlt ⊢;have HR:=hid hr;have HM:=hid hm;have HK:=hid l1;have HRL:=hid (show r<1000 by omega);clear hnn hlt hr hm l1;obtain⟨s1,a1,n1,c1,W,rfl,hW,S⟩:=en1 hx;go_enter func91,ntmps91;go_upto_region 1 with fail;rw[<-hW];clear hW;refine rg 10 [some 8,some 9,some 10,some 11,some 12,some 7,some 13,some 14,some 5,some 6] [IsI k1 z,iV (m:Int),IsI 2 ((m:Int)),IsI 2 ((r:Int)),IsT2 (iV (r:Int)) (IsV (.bool true)),IsT2 (iV (r:Int)) (IsV (.bool true)),iV (r:Int),IsV (.bool true),iV (r:Int),IsV (.bool true)] [] 0 ?_ ?_
 ·refine Rc (ldI S 0 (w.heap.size) 0 (qD 2) qG) ?_;refine Rc (mv (qD 1)) ?_;refine Rc (cl1 (en func22) (qA (fP:=iV (m:Int)) 1 9) (λx0 w' hE d0=>by{obtain rfl:x0=.int .i64 (m:Int):=d0;exact qL _ (m:Int) zbm zbm})) ?_;refine Rc (cl2 (en func94) (qA (fP:=IsI k1 z) 0 8) (qA (fP:=IsI 2 ((m:Int))) 2 10) (λx0 x1 w' hE d0 d1=>zC (RMod_f d0 d1 HK.out dcx zbm) λ_ _ h=>h.eqz HR.out)) ?_;refine Rc (cl1 (en func47) (qA (fP:=IsI 2 ((r:Int))) 3 11) (λx0 w' hE d0=>RLow_f d0 (by have:=HRL.out;omega))) ?_;refine Rc (mv (qA 4 12)) ?_;refine Rc (ex (qC 5 7) t20) ?_;refine Rc (ex (qC 5 7) t21) ?_;refine Rc (mv (qA 6 13)) ?_;refine Rc (mv (qA 7 14)) ?_;exact rn0
 intro v W1 e1 hH _;replace S:=S.mono e1;simp only[lxE,Nat.reduceAdd];rw[show v 8=.int .i64 (r:Int)from hH 8 dcx];clear hH e1;refine zO za ?_ _;go_upto_region 2 with fail;refine rgt S 2 [some 15,some 4] [iV (r:Int),iV (r:Int)] ?_ ?_
 ·refine Rc ja ?_;refine Rc (mv (qA 0 15)) ?_;exact rn0
 intro v W2 S hH;simp only[lxE,Nat.reduceAdd];rw[show v 1=.int .i64 (r:Int)from hH 1 dcx];clear hH;go_wp2_with fail;exact zD (v:=.int .i64 (r:Int)) (by simp[results,results91,go_sem]) rfl (⟨_,rfl,S.ext,rfl⟩)
theorem two_0{k1:Nat}{z r r2:Int}{x:Value}{w:World}(hx:IsI k1 z x w)(HK:Hid (k1<=67108864))(HR:Hid (z%8=r))(H2:Hid (r.tmod 2=r2))(HE:Hid ((r2==0)=true)):Calls prog 92 #[x] w (Ret w (iV 0)):=by
 obtain⟨s1,a1,n1,c1,W,rfl,hW,S⟩:=en1 hx;go_enter func92,ntmps92;go_upto_region 1 with fail;rw[<-hW];clear hW;refine rgt S 3 [some 4,some 5,some 3] [IsI k1 z,iV r,iV r] ?_ ?_
 ·refine Rc zj ?_;refine Rc je ?_;refine Rc (mv (qA 1 5)) ?_;exact rn0
 intro v W1 S hH;simp only[lxE,Nat.reduceAdd];rw[show v 2=.int .i64 r from hH 2 dcx];clear hH;go_upto_region 2 with fail;refine rgt S 3 [some 6,some 7,some 8] [iV r,iV r2,IsV (.bool true)] ?_ ?_
 ·refine Rc (mv (qD 3)) ?_;refine Rc zbb ?_;refine Rc (bn (r:=.bool true) (qC 1 7) qE (hr:=λw=>by have hx9:=HE.out;go_simp)) ?_;exact rn0
 intro v W2 S hH;simp only[lxE,Nat.reduceAdd];rw[show v 2=.bool true from hH 2 dcx];clear hH;go_upto_region 3 with fail;refine rgt S 1 [some 2] [iV 0] ?_ ?_
 ·refine Rc zaf ?_;exact rn0
 intro v W3 S hH;simp only[lxE];rw[show v 0=.int .i64 0 from hH 0 dcx];clear hH;go_wp2_with fail;exact zD (v:=.int .i64 0) (by simp[results,results92,go_sem]) rfl (⟨_,rfl,S.ext,rfl⟩)
theorem two_m{k1:Nat}{z r r2:Int}{x:Value}{w:World}(hx:IsI k1 z x w)(HK:Hid (k1<=67108864))(HR:Hid (z%8=r))(H2:Hid (r.tmod 2=r2))(HE:Hid ((r2==0)=false))(b3 b5:Bool)(H3:Hid ((r==3)=b3))(H5:Hid ((r==5)=b5))(HO:Hid ((b3||b5)=true)):Calls prog 92 #[x] w (Ret w (iV (-1))):=by
 obtain⟨s1,a1,n1,c1,W,rfl,hW,S⟩:=en1 hx;go_enter func92,ntmps92;go_upto_region 1 with fail;rw[<-hW];clear hW;refine rgt S 3 [some 4,some 5,some 3] [IsI k1 z,iV r,iV r] ?_ ?_
 ·refine Rc zj ?_;refine Rc je ?_;refine Rc (mv (qA 1 5)) ?_;exact rn0
 intro v W1 S hH;simp only[lxE,Nat.reduceAdd];rw[show v 2=.int .i64 r from hH 2 dcx];clear hH;go_upto_region 2 with fail;refine rgt S 3 [some 6,some 7,some 8] [iV r,iV r2,IsV (.bool false)] ?_ ?_
 ·refine Rc (mv (qD 3)) ?_;refine Rc zbb ?_;refine Rc (bn (r:=.bool false) (qC 1 7) qE (hr:=λw=>by have hx9:=HE.out;go_simp)) ?_;exact rn0
 intro v W2 S hH;simp only[lxE,Nat.reduceAdd];rw[show v 2=.bool false from hH 2 dcx];clear hH;go_upto_region 4 with fail;refine rgt S 6 [some 9,some 10,some 11,some 12,some 13,some 14] [iV r,IsV (.bool b3),IsV (.bool b3),IsIf (!b3) (iV r),IsIf (!b3) (IsV (.bool b5)),IsV (.bool true)] ?_ ?_ (hst:=by repeat' (first|exact trivial|apply IsIf.stb|exact IsV.stb _|exact IsI.stb _ _|apply IsJ.stb|apply IsQ.stb|apply IsF.stb|apply IsT2.stb|apply IsT3.stb|exact IsBo.stb _ _|apply zJ))
 ·refine Rc (mv (qD 3)) ?_;refine Rc (bn (r:=.bool b3) (qC 0 9) qE (hr:=λw=>by have hx9:=H3.out;go_simp)) ?_;refine Rc zbo ?_;refine RcB 2 11 b3 false (λhb=>by subst hb;exact mv (qD 3)) ?_;refine RcB 2 11 b3 false (λhb=>by subst hb;exact bn (r:=.bool b5) (qC 3 12) qE (hr:=λw=>by have hx9:=H5.out;go_simp)) ?_;refine Rc (pkO (b2:=b5) (qC 2 11) (λhb=>by subst hb;exact qA 4 13) (HO.out)) ?_;exact rn0
 intro v W4 S hH;simp only[lxE,Nat.reduceAdd];rw[show v 5=.bool true from hH 5 dcx];clear hH;go_upto_region 5 with fail;refine rgt S 1 [some 2] [iV (-1)] ?_ ?_
 ·refine Rc zaf ?_;exact rn0
 intro v W5 S hH;simp only[lxE];rw[show v 0=.int .i64 (-1)from hH 0 dcx];clear hH;go_wp2_with fail;exact zD (v:=.int .i64 (-1)) (by simp[results,results92,go_sem]) rfl (⟨_,rfl,S.ext,rfl⟩)
theorem two_p{k1:Nat}{z r r2:Int}{x:Value}{w:World}(hx:IsI k1 z x w)(HK:Hid (k1<=67108864))(HR:Hid (z%8=r))(H2:Hid (r.tmod 2=r2))(HE:Hid ((r2==0)=false))(b3 b5:Bool)(H3:Hid ((r==3)=b3))(H5:Hid ((r==5)=b5))(HO:Hid ((b3||b5)=false)):Calls prog 92 #[x] w (Ret w (iV 1)):=by
 obtain⟨s1,a1,n1,c1,W,rfl,hW,S⟩:=en1 hx;go_enter func92,ntmps92;go_upto_region 1 with fail;rw[<-hW];clear hW;refine rgt S 3 [some 4,some 5,some 3] [IsI k1 z,iV r,iV r] ?_ ?_
 ·refine Rc zj ?_;refine Rc je ?_;refine Rc (mv (qA 1 5)) ?_;exact rn0
 intro v W1 S hH;simp only[lxE,Nat.reduceAdd];rw[show v 2=.int .i64 r from hH 2 dcx];clear hH;go_upto_region 2 with fail;refine rgt S 3 [some 6,some 7,some 8] [iV r,iV r2,IsV (.bool false)] ?_ ?_
 ·refine Rc (mv (qD 3)) ?_;refine Rc zbb ?_;refine Rc (bn (r:=.bool false) (qC 1 7) qE (hr:=λw=>by have hx9:=HE.out;go_simp)) ?_;exact rn0
 intro v W2 S hH;simp only[lxE,Nat.reduceAdd];rw[show v 2=.bool false from hH 2 dcx];clear hH;go_upto_region 4 with fail;refine rgt S 6 [some 9,some 10,some 11,some 12,some 13,some 14] [iV r,IsV (.bool b3),IsV (.bool b3),IsIf (!b3) (iV r),IsIf (!b3) (IsV (.bool b5)),IsV (.bool false)] ?_ ?_ (hst:=by repeat' (first|exact trivial|apply IsIf.stb|exact IsV.stb _|exact IsI.stb _ _|apply IsJ.stb|apply IsQ.stb|apply IsF.stb|apply IsT2.stb|apply IsT3.stb|exact IsBo.stb _ _|apply zJ))
 ·refine Rc (mv (qD 3)) ?_;refine Rc (bn (r:=.bool b3) (qC 0 9) qE (hr:=λw=>by have hx9:=H3.out;go_simp)) ?_;refine Rc zbo ?_;refine RcB 2 11 b3 false (λhb=>by subst hb;exact mv (qD 3)) ?_;refine RcB 2 11 b3 false (λhb=>by subst hb;exact bn (r:=.bool b5) (qC 3 12) qE (hr:=λw=>by have hx9:=H5.out;go_simp)) ?_;refine Rc (pkO (b2:=b5) (qC 2 11) (λhb=>by subst hb;exact qA 4 13) (HO.out)) ?_;exact rn0
 intro v W4 S hH;simp only[lxE,Nat.reduceAdd];rw[show v 5=.bool false from hH 5 dcx];clear hH;go_upto_region 6 with fail;refine rgt S 1 [some 2] [iV 1] ?_ ?_
 ·refine Rc zaf ?_;exact rn0
 intro v W6 S hH;simp only[lxE];rw[show v 0=.int .i64 1 from hH 0 dcx];clear hH;go_wp2_with fail;exact zD (v:=.int .i64 1) (by simp[results,results92,go_sem]) rfl (⟨_,rfl,S.ext,rfl⟩)
theorem two_f{k1:Nat}{z:Int}{x:Value}{w:World}(hx:IsI k1 z x w)(l1:k1<=67108864):Calls prog 92 #[x] w (Ret w (iV (sg8 (z%8).toNat))):=by
 obtain⟨r,hr⟩:∃r,z%8=r:=⟨_,rfl⟩;rw[hr];have hb:r=0\/r=1\/r=2\/r=3\/r=4\/r=5\/r=6\/r=7:=zb
 rcases hb with rfl|rfl|rfl|rfl|rfl|rfl|rfl|rfl
 ·exact two_0 hx (hid l1) (hid hr) (hid rfl) (hid dcx)
 ·exact two_p hx (hid l1) (hid hr) (hid rfl) (hid dcx) _ _ (hid rfl) (hid rfl) (hid dcx)
 ·exact two_0 hx (hid l1) (hid hr) (hid rfl) (hid dcx)
 ·exact two_m hx (hid l1) (hid hr) (hid rfl) (hid dcx) _ _ (hid rfl) (hid rfl) (hid dcx)
 ·exact two_0 hx (hid l1) (hid hr) (hid rfl) (hid dcx)
 ·exact two_m hx (hid l1) (hid hr) (hid rfl) (hid dcx) _ _ (hid rfl) (hid rfl) (hid dcx)
 ·exact two_0 hx (hid l1) (hid hr) (hid rfl) (hid dcx)
 ·exact two_p hx (hid l1) (hid hr) (hid rfl) (hid dcx) _ _ (hid rfl) (hid rfl) (hid dcx)
theorem RKron_a{k1 k2 n:Nat}{z rr:Int}{x y:Value}{w:World}(hx:IsI k1 z x w)(hy:IsI k2 (n:Int) y w)(HK:Hid (k1<=67108864/\k2<=67108864))(HN:Hid (0<n/\n<=4611686018427387904))(HS1:Hid ((n:Int).sign=1))(HAB:Hid ((((n:Int).natAbs:Nat):Int)=(n:Int)))(HRR:Hid (kr z n=rr)):Calls prog 48 #[x,y] w (Ret w (iV rr)):=by
 obtain⟨s1,a1,n1,c1,s2,a2,n2,c2,W,rfl,rfl,hW,S⟩:=en2 hx hy;go_enter func48,ntmps48;go_upto_region 1 with fail;rw[<-hW];clear hW;refine rgt S 3 [some 7,some 8,some 9] [IsI k2 ((n:Int)),iV 1,IsV (.bool false)] ?_ ?_
 ·refine Rc zg ?_;refine Rc (cl1 (en func65) (qA (fP:=IsI k2 ((n:Int))) 0 7) (λx0 w' hE d0=>zC (xN d0) λ_ _ h=>h.int HS1.out)) ?_;refine Rc xb ?_;exact rn0
 intro v W1 S hH;simp only[lxE,Nat.reduceAdd];rw[show v 2=.bool false from hH 2 dcx];clear hH;go_upto_region 5 with fail;refine rgt S 1 [some 5] [iV 1] ?_ ?_
 ·refine Rc zaf ?_;exact rn0
 intro v W5 S hH;simp only[lxE];rw[show v 0=.int .i64 1 from hH 0 dcx];clear hH;go_upto_region 6 with fail;refine rgt S 8 [some 14,some 15,some 16,some 17,some 18,some 19,some 20,some 21] [IsI k2 ((n:Int)),iV 1,IsV (.bool false),IsV (.bool false),IsV (undef),IsV (undef),IsV (undef),IsV (.bool false)] ?_ ?_
 ·refine Rc zg ?_;refine Rc (cl1 (en func65) (qA (fP:=IsI k2 ((n:Int))) 0 14) (λx0 w' hE d0=>zC (xN d0) λ_ _ h=>h.int HS1.out)) ?_;refine Rc yw ?_;refine Rc zbw ?_;refine RcN 3 17 false ?_;refine RcN 3 17 false ?_;refine RcN 3 17 false ?_;refine Rc (pk (qC 3 17) qE) ?_;exact rn0
 intro v W6 S hH;simp only[lxE,Nat.reduceAdd];rw[show v 7=.bool false from hH 7 dcx];clear hH;go_upto_region 8 with fail;refine rgs 2 [some 22,some 23] [IsI k2 ((n:Int)),IsI k2 ((n:Int))] [] ?_ ?_
 ·refine Rc zg ?_;refine Rc (cl1 (en func70) (qA (fP:=IsI k2 ((n:Int))) 0 22) (λx0 w' hE d0=>zC (RAbs_f d0) λ_ _ h=>h.eqz HAB.out)) ?_;exact rn0
 intro v W8 e1 hH _;replace S:=S.mono e1;have h23:=hH 1 dcx;simp only[lxE,Nat.reduceAdd];clear hH e1
 try simp only[dxE]
 (with_reducible refine stL ?_ zfe);intro KK hKK;refine stI S 0 (w.heap.size+1) 0 h23 qJ (λW8a S2 G2=>hKK _ _ ?_) rfl
 replace S:=S2;clear S2 G2 hKK KK h23;simp only[u0x]at S;refine zF ?_;go_wp2_with fail;have S0:=hid S;clear S
 go_loopg [5] n (λgk v5 wr=>∃(m:Nat) (kk:Int),v5=.int .i64 kk/\m=gk/\0<m/\m<=4611686018427387904/\(-1<=kk/\kk<=1)/\kk*kr z m=rr/\Hid (Sto w wr [((w.heap.size+1,0),IsI k2 ((m:Int))),((w.heap.size,0),IsI k1 z)]))
 case atStart=>exact⟨n,1,rfl,rfl,HN.out.1,HN.out.2,by decide,by rw[Int.one_mul];exact HRR.out,S0⟩
 case round=>
  clear S0;obtain⟨m,kk,rfl,hgm,hm0,hmb,hkk,hr,S⟩:=hrel;have S:=S.out;obtain⟨q,hq⟩:∃q,gk=q:=⟨_,rfl⟩;rw[hq]at hgm;rcases Nat.mod_two_eq_zero_or_one m with h2|h2
  ·obtain⟨m2,rfl⟩:∃m2,m=2*m2:=⟨m/2,by omega⟩;have HM2:=hid (show((2*m2:Nat):Int)%((2:Nat):Int)=0 by omega);obtain⟨s,hs⟩:∃s,sg8 (z%8).toNat=s:=⟨_,rfl⟩;rw[kr_even (by omega),hs,<-Int.mul_assoc]at hr;have hsb:=sg8_le (z%8).toNat;rw[hs]at hsb;obtain⟨k3,hk3⟩:∃k,kk*s=k:=⟨_,rfl⟩;have hb3: -1<=k3/\k3<=1:=by rw[<-hk3,<-hs];exact mul_sg kk _ hkk
   rw[hk3]at hr;have HS:=hid hs;have HWR:=hid (show IntKind.i64.wrap (kk*s)=k3 by rw[hk3];exact qT zb zb);have HDV:=hid (show((2*m2:Nat):Int)/2=(m2:Int)by omega);have HG:=hid (show m2<q/\0<m2/\m2<=4611686018427387904 by omega);have HR3:=hid hr;have HB3:=hid hb3;have HQ:=hid hq;clear hr hb3 hk3 hs hsb hkk hgm hm0 hmb h2 hq;go_upto_region 9 with fail;refine rgt S 3 [some 24,some 25,some 26] [IsI k2 (((2*m2:Nat):Int)),iV 0,IsV (.bool true)] ?_ ?_
   ·refine Rc zg ?_;refine Rc (cl2 (en func91) (qA (fP:=IsI k2 (((2*m2:Nat):Int))) 0 24) qE (λx0 x1 w' hE d0 d1=>by{obtain rfl:x1=.int .i64 2:=d1;exact js})) ?_;refine Rc (bn (r:=.bool true) (qC 1 25) qE (hr:=λw=>by go_simp)) ?_;exact rn0
   intro v W9 S hH;simp only[lxE,Nat.reduceAdd];rw[show v 2=.bool true from hH 2 dcx];clear hH;go_upto_region 10 with fail;refine rgs 4 [some 27,some 28,some 29,some 30] [iV kk,IsI k1 z,iV s,iV k3] [] ?_ ?_
   ·refine Rc ja ?_;refine Rc zf ?_;refine Rc (cl1 (en func92) (qA (fP:=IsI k1 z) 1 28) (λx0 w' hE d0=>(by have hh:=two_f d0 HK.out.1;rw[show _=_ from HS.out]at hh;exact hh))) ?_;refine Rc (bn (r:=.int .i64 k3) (qC 0 27) (qC 2 29) (hr:=λw=>by have hx9:=HWR.out;go_simp)) ?_;exact rn0
   intro v W10 e1 hH _;replace S:=S.mono e1;simp only[lxE,Nat.reduceAdd];rw[show v 3=.int .i64 k3 from hH 3 dcx];clear hH e1;refine zT λK hK=>?_;go_simp;refine hK _ _ ?_;clear hK K
   refine zF ?_;go_upto_region 11 with fail;refine rg 3 [some 31,some 32,some 33] [IsI k2 (((2*m2:Nat):Int)),IsI 2 2,IsI k2 ((m2:Int))] [] 1 ?_ ?_
   ·refine Rc zg ?_;refine Rc zag ?_;refine Rc (cl2 (en func93) (qA (fP:=IsI k2 (((2*m2:Nat):Int))) 0 31) (qA (fP:=IsI 2 2) 1 32) (λx0 x1 w' hE d0 d1=>zC (RDiv_f d0 d1 HK.out.2 dcx dcx) λ_ _ h=>h.eqz HDV.out)) ?_;exact rn0
   intro v W11 e1 hH _;replace S:=S.mono e1;have h33:=hH 2 dcx;simp only[lxE,Nat.reduceAdd];clear hH e1;refine stA 3 (h:=λKK hKK=>stI S 0 (w.heap.size+1) 0 h33 qJ (λW11a S2 G2=>hKK _ _ ?_) rfl);replace S:=S2;clear S2 G2 hKK KK h33;simp only[u0x]at S;refine zO za ?_ _;go_upto_region 12 with fail;by_cases hk0:k3=0
   ·have HX:=hid (show(k3==0)=true by rw[hk0];rfl);have HR0:=hid (show rr=0 by rw[<-HR3.out,hk0,Int.zero_mul]);clear hk0;refine rgt S 2 [some 34,some 35] [iV k3,IsV (.bool true)] ?_ ?_
    ·refine Rc ja ?_;refine Rc (bn (r:=.bool true) (qC 0 34) qE (hr:=λw=>by have hx9:=HX.out;go_simp)) ?_;exact rn0
    intro v W12 S hH;simp only[lxE,Nat.reduceAdd];rw[show v 1=.bool true from hH 1 dcx];clear hH;go_upto_region 13 with fail;refine rgt S 1 [some 4] [iV 0] ?_ ?_
    ·refine Rc zaf ?_;exact rn0
    intro v W13 S hH;simp only[lxE];rw[show v 0=.int .i64 0 from hH 0 dcx];clear hH;go_wp2_with fail;exact zD (v:=.int .i64 0) (by simp[results,results48,go_sem]) rfl (⟨_,rfl,S.ext,HR0.out▸rfl⟩)
   ·have HX:=hid (show(k3==0)=false from beq_eq_false_iff_ne.2 hk0);clear hk0;refine rgt S 2 [some 34,some 35] [iV k3,IsV (.bool false)] ?_ ?_
    ·refine Rc ja ?_;refine Rc (bn (r:=.bool false) (qC 0 34) qE (hr:=λw=>by have hx9:=HX.out;go_simp)) ?_;exact rn0
    intro v W12 S hH;simp only[lxE,Nat.reduceAdd];rw[show v 1=.bool false from hH 1 dcx];clear hH;have S':=hid S;clear S;go_wp2_with fail
    go_roundg m2
    case measure=>have:=HG.out;have:=HQ.out;omega
    case rel=>exact⟨m2,k3,rfl,rfl,HG.out.2.1,HG.out.2.2,HB3.out,HR3.out,S'⟩
  ·have HM2:=hid (show(m:Int)%((2:Nat):Int)=1 by omega);rw[kr_odd h2]at hr;have hmz:(m:Int)≠0:=by omega
   have hnn:=Int.emod_nonneg z hmz;have hlt:=Int.emod_lt_of_pos z (show(0:Int)<(m:Int)by omega);obtain⟨a0,ha0⟩:∃a,(z%(m:Int)).toNat=a:=⟨_,rfl⟩;rw[ha0]at hr;have HA0:=hid (show z%(m:Int)=(a0:Int)by rw[<-ha0,Int.toNat_of_nonneg hnn]);have hr2:gi a0 m (kk*GS a0 m)=rr:=by rw[<-hr];unfold gi;cases Nat.beq (Nat.gcd a0 m) 1 <;> simp
   have HI:=hid (show a0<=4611686018427387904/\m%2=1/\m<=4611686018427387904/\(-1<=kk/\kk<=1)/\gi a0 m (kk*GS a0 m)=rr from⟨by omega,h2,hmb,hkk,hr2⟩);have HMZ:=hid hmz;clear hr hr2 hmz hnn hlt ha0 hgm hm0 hmb hkk hq h2;go_upto_region 9 with fail;refine rgt S 3 [some 24,some 25,some 26] [IsI k2 ((m:Int)),iV 1,IsV (.bool false)] ?_ ?_
   ·refine Rc zg ?_;refine Rc (cl2 (en func91) (qA (fP:=IsI k2 ((m:Int))) 0 24) qE (λx0 x1 w' hE d0 d1=>by{obtain rfl:x1=.int .i64 2:=d1;exact js})) ?_;refine Rc (bn (r:=.bool false) (qC 1 25) qE (hr:=λw=>by go_simp)) ?_;exact rn0
   intro v W9 S hH;simp only[lxE,Nat.reduceAdd];rw[show v 2=.bool false from hH 2 dcx];clear hH;go_upto_region 14 with fail;refine rgs 3 [some 36,some 37,some 38] [IsI k1 z,IsI k2 ((m:Int)),IsI k2 ((a0:Int))] [] ?_ ?_
   ·refine Rc zf ?_;refine Rc zg ?_;refine Rc (cl2 (en func94) (qA (fP:=IsI k1 z) 0 36) (qA (fP:=IsI k2 ((m:Int))) 1 37) (λx0 x1 w' hE d0 d1=>zC (RMod_f d0 d1 HK.out.1 HK.out.2 HMZ.out) λ_ _ h=>h.eqz HA0.out)) ?_;exact rn0
   intro v W14 e1 hH _;replace S:=S.mono e1;have h38:=hH 2 dcx;simp only[lxE,Nat.reduceAdd];clear hH e1
   try simp only[dxE]
   (with_reducible refine stL ?_ zfe);intro KK hKK;refine stI S 1 (w.heap.size) 0 h38 qJ (λW14a S2 G2=>hKK _ _ ?_) rfl
   replace S:=S2;clear S2 G2 hKK KK h38;simp only[u0x,u1x]at S;refine zF ?_;go_wp2_with fail;have S0:=hid S;clear S
   go_loopg [5] a0 (λgk v5 wr=>∃(a nn:Nat) (kk:Int),v5=.int .i64 kk/\a=gk/\a<=4611686018427387904/\nn%2=1/\nn<=4611686018427387904/\(-1<=kk/\kk<=1)/\gi a nn (kk*GS a nn)=rr/\Hid (Sto w wr [((w.heap.size+1,0),IsI k2 ((nn:Int))),((w.heap.size,0),IsI k2 ((a:Int)))]))
   case atStart=>exact⟨a0,m,kk,rfl,rfl,HI.out.1,HI.out.2.1,HI.out.2.2.1,HI.out.2.2.2.1,HI.out.2.2.2.2,S0⟩
   case round=>
    clear S0 HI;obtain⟨a,nn,kk,rfl,hga,hab,hno,hnb,hkk,hr,S⟩:=hrel;have S:=S.out;obtain⟨q,hq⟩:∃q,gk=q:=⟨_,rfl⟩;rw[hq]at hga;rcases zI a with ha|ha
    ·subst ha;rw[kv_end]at hr;have HS0:=hid (show(((0:Nat):Nat):Int).sign=0 from rfl);by_cases h1:nn=1
     ·have HONE:=hid (show decide ((nn:Int)=1)=true from decide_eq_true zb);rw[if_pos h1]at hr;have HRR:=hid hr;clear hr hga hab hno hnb hkk hq h1;go_upto_region 15 with fail;refine rgt S 3 [some 39,some 40,some 41] [IsI k2 (((0:Nat):Int)),iV 0,IsV (.bool false)] ?_ ?_
      ·refine Rc zf ?_;refine Rc zb3 ?_;refine Rc (bn (r:=.bool false) (qC 1 40) qE (hr:=λw=>by go_simp)) ?_;exact rn0
      intro v W15 S hH;simp only[lxE,Nat.reduceAdd];rw[show v 2=.bool false from hH 2 dcx];clear hH;go_upto_region 24 with fail;refine rg 4 [some 67,some 68,some 69,some 70] [IsI k2 ((nn:Int)),IsI 2 1,IsV (.bool true),IsV (.bool false)] [] 0 ?_ ?_
      ·refine Rc zg ?_;refine Rc zn ?_;refine Rc zeu ?_;refine Rc (nt (qC 2 69)) ?_;exact rn0
      intro v W24 e1 hH _;replace S:=S.mono e1;simp only[lxE,Nat.reduceAdd];rw[show v 3=.bool false from hH 3 dcx];clear hH e1;refine zO za ?_ _;go_upto_region 26 with fail;refine rgt S 2 [some 71,some 4] [iV kk,iV kk] ?_ ?_
      ·refine Rc ja ?_;refine Rc (mv (qA 0 71)) ?_;exact rn0
      intro v W26 S hH;simp only[lxE,Nat.reduceAdd];rw[show v 1=.int .i64 kk from hH 1 dcx];clear hH;go_wp2_with fail;exact zD (v:=.int .i64 kk) (by simp[results,results48,go_sem]) rfl (⟨_,rfl,S.ext,HRR.out▸rfl⟩)
     ·have HONE:=hid (show decide ((nn:Int)=1)=false from decide_eq_false zb);rw[if_neg h1]at hr;have HRR:=hid hr;clear hr hga hab hno hnb hkk hq h1;go_upto_region 15 with fail;refine rgt S 3 [some 39,some 40,some 41] [IsI k2 (((0:Nat):Int)),iV 0,IsV (.bool false)] ?_ ?_
      ·refine Rc zf ?_;refine Rc zb3 ?_;refine Rc (bn (r:=.bool false) (qC 1 40) qE (hr:=λw=>by go_simp)) ?_;exact rn0
      intro v W15 S hH;simp only[lxE,Nat.reduceAdd];rw[show v 2=.bool false from hH 2 dcx];clear hH;go_upto_region 24 with fail;refine rg 4 [some 67,some 68,some 69,some 70] [IsI k2 ((nn:Int)),IsI 2 1,IsV (.bool false),IsV (.bool true)] [] 0 ?_ ?_
      ·refine Rc zg ?_;refine Rc zn ?_;refine Rc zeu ?_;refine Rc (nt (qC 2 69)) ?_;exact rn0
      intro v W24 e1 hH _;replace S:=S.mono e1;simp only[lxE,Nat.reduceAdd];rw[show v 3=.bool true from hH 3 dcx];clear hH e1;refine zO za ?_ _;go_upto_region 25 with fail;refine rgt S 1 [some 4] [iV 0] ?_ ?_
      ·refine Rc zaf ?_;exact rn0
      intro v W25 S hH;simp only[lxE];rw[show v 0=.int .i64 0 from hH 0 dcx];clear hH;go_wp2_with fail;exact zD (v:=.int .i64 0) (by simp[results,results48,go_sem]) rfl (⟨_,rfl,S.ext,HRR.out▸rfl⟩)
    ·have HS1:=hid (show(a:Int).sign=1 from Int.sign_eq_one_of_pos zb);have HO:=hid (show a=q/\gk=q/\nn%2=1/\nn<=4611686018427387904 from⟨hga,hq,hno,hnb⟩);have HI:=hid (show 0<a/\a<=4611686018427387904/\(-1<=kk/\kk<=1)/\gi a nn (kk*GS a nn)=rr from⟨ha,hab,hkk,hr⟩);clear ha hga hab hno hnb hkk hr hq;go_upto_region 15 with fail;refine rgt S 3 [some 39,some 40,some 41] [IsI k2 ((a:Int)),iV 1,IsV (.bool true)] ?_ ?_
     ·refine Rc zf ?_;refine Rc (cl1 (en func65) (qA (fP:=IsI k2 ((a:Int))) 0 39) (λx0 w' hE d0=>zC (xN d0) λ_ _ h=>h.int HS1.out)) ?_;refine Rc (bn (r:=.bool true) (qC 1 40) qE (hr:=λw=>by go_simp)) ?_;exact rn0
     intro v W15 S hH;simp only[lxE,Nat.reduceAdd];rw[show v 2=.bool true from hH 2 dcx];clear hH;go_wp2_with fail;have S0:=hid S;clear S
     go_loopg [5] a (λgk3 v5 wr=>∃(b:Nat) (kk:Int),v5=.int .i64 kk/\b=gk3/\0<b/\b<=a/\(-1<=kk/\kk<=1)/\gi b nn (kk*GS b nn)=rr/\Hid (Sto w wr [((w.heap.size+1,0),IsI k2 ((nn:Int))),((w.heap.size,0),IsI k2 ((b:Int)))]))
     case atStart=>exact⟨a,kk,rfl,rfl,HI.out.1,zL _,HI.out.2.2.1,HI.out.2.2.2,S0⟩
     case round=>
      clear S0;obtain⟨b,kk,rfl,hgb,hb0,hba,hkk,hr,S⟩:=hrel;have S:=S.out;obtain⟨q3,hq3⟩:∃q,gk=q:=⟨_,rfl⟩;rw[hq3]at hgb;rcases Nat.mod_two_eq_zero_or_one b with h2|h2
      ·obtain⟨b2,rfl⟩:∃b2,b=2*b2:=⟨b/2,by omega⟩;have HM2:=hid (show((2*b2:Nat):Int)%((2:Nat):Int)=0 by omega);rw[kv_half HO.out.2.2.1]at hr;obtain⟨s,hs⟩:∃s,sg8 (nn%8)=s:=⟨_,rfl⟩;have hsb:=sg8_le (nn%8);rw[hs]at hsb hr;obtain⟨k3,hk3⟩:∃k,kk*s=k:=⟨_,rfl⟩;have hb3: -1<=k3/\k3<=1:=by rw[<-hk3,<-hs];exact mul_sg kk _ hkk
       rw[hk3]at hr;have HS:=hid (show sg8 ((nn:Int)%8).toNat=s by rw[<-hs,show((nn:Int)%8).toNat=nn%8 by omega]);have HWR:=hid (show IntKind.i64.wrap (kk*s)=k3 by rw[hk3];exact qT zb zb);have HDV:=hid (show((2*b2:Nat):Int)/2=(b2:Int)by omega);have HG:=hid (show b2<q3/\0<b2/\b2<=a by omega);have HR3:=hid hr;have HB3:=hid hb3;have HQ:=hid hq3;clear hr hb3 hk3 hs hsb hkk hgb hb0 hba h2 hq3;go_upto_region 16 with fail;refine rgt S 3 [some 42,some 43,some 44] [IsI k2 (((2*b2:Nat):Int)),iV 0,IsV (.bool true)] ?_ ?_
       ·refine Rc zf ?_;refine Rc (cl2 (en func91) (qA (fP:=IsI k2 (((2*b2:Nat):Int))) 0 42) qE (λx0 x1 w' hE d0 d1=>by{obtain rfl:x1=.int .i64 2:=d1;exact js})) ?_;refine Rc (bn (r:=.bool true) (qC 1 43) qE (hr:=λw=>by go_simp)) ?_;exact rn0
       intro v W16 S hH;simp only[lxE,Nat.reduceAdd];rw[show v 2=.bool true from hH 2 dcx];clear hH;go_upto_region 17 with fail;refine rg 3 [some 45,some 46,some 47] [IsI k2 (((2*b2:Nat):Int)),IsI 2 2,IsI k2 ((b2:Int))] [] 1 ?_ ?_
       ·refine Rc zf ?_;refine Rc zag ?_;refine Rc (cl2 (en func93) (qA (fP:=IsI k2 (((2*b2:Nat):Int))) 0 45) (qA (fP:=IsI 2 2) 1 46) (λx0 x1 w' hE d0 d1=>zC (RDiv_f d0 d1 HK.out.2 dcx dcx) λ_ _ h=>h.eqz HDV.out)) ?_;exact rn0
       intro v W17 e1 hH _;replace S:=S.mono e1;have h47:=hH 2 dcx;simp only[lxE,Nat.reduceAdd];clear hH e1;refine stA 3 (h:=λKK hKK=>stI S 1 (w.heap.size) 0 h47 qJ (λW17a S2 G2=>hKK _ _ ?_) rfl);replace S:=S2;clear S2 G2 hKK KK h47;simp only[u0x,u1x]at S;refine zO za ?_ _;go_upto_region 18 with fail;refine rgs 4 [some 48,some 49,some 50,some 51] [iV kk,IsI k2 ((nn:Int)),iV s,iV k3] [] ?_ ?_
       ·refine Rc ja ?_;refine Rc zg ?_;refine Rc (cl1 (en func92) (qA (fP:=IsI k2 ((nn:Int))) 1 49) (λx0 w' hE d0=>(by have hh:=two_f d0 HK.out.2;rw[show _=_ from HS.out]at hh;exact hh))) ?_;refine Rc (bn (r:=.int .i64 k3) (qC 0 48) (qC 2 50) (hr:=λw=>by have hx9:=HWR.out;go_simp)) ?_;exact rn0
       intro v W18 e1 hH _;replace S:=S.mono e1;simp only[lxE,Nat.reduceAdd];rw[show v 3=.int .i64 k3 from hH 3 dcx];clear hH e1;refine zT λK hK=>?_;go_simp;refine hK _ _ ?_;clear hK K
       refine zF ?_;have S':=hid S;clear S;go_wp2_with fail
       go_roundg b2
       case measure=>have:=HG.out;have:=HQ.out;omega
       case rel=>exact⟨b2,k3,rfl,rfl,HG.out.2.1,HG.out.2.2,HB3.out,HR3.out,S'⟩
      ·have HM2:=hid (show(b:Int)%((2:Nat):Int)=1 by omega);rw[kv_flip h2 HO.out.2.2.1]at hr;obtain⟨na,hna⟩:∃x,nn%b=x:=⟨_,rfl⟩;have hlt:=zR nn hb0;rw[hna]at hr hlt;obtain⟨rb,hrb⟩:∃r:Nat,b%4=r:=⟨_,rfl⟩;obtain⟨rn,hrn⟩:∃r:Nat,nn%4=r:=⟨_,rfl⟩;have HB4:=hid (show(b:Int)%((4:Nat):Int)=(rb:Int)by omega);have HN4:=hid (show(nn:Int)%((4:Nat):Int)=(rn:Int)by omega);obtain⟨e3,he3⟩:∃e,(rb==3)=e:=⟨_,rfl⟩;obtain⟨f3,hf3⟩:∃e,(rn==3)=e:=⟨_,rfl⟩;have HE3:=hid (show((rb:Int)==3)=e3/\(rb==3)=e3 from⟨by rw[<-he3,Bool.eq_iff_iff,beq_iff_eq,beq_iff_eq];omega,he3⟩);have HF3:=hid (show((rn:Int)==3)=f3/\(rn==3)=f3 from⟨by rw[<-hf3,Bool.eq_iff_iff,beq_iff_eq,beq_iff_eq];omega,hf3⟩);have HBZ:=hid (show(b:Int)≠0 by omega);have HNM:=hid (show(nn:Int)%(b:Int)=(na:Int)by rw[<-hna];rfl);have HG:=hid (show na<q/\na<=4611686018427387904/\b%2=1/\b<=4611686018427387904 by have:=HO.out;have:=HI.out;omega);by_cases h3:b%4=3/\nn%4=3
       ·have HEF:=hid (show(e3&&f3)=true by rw[<-he3,<-hf3,Bool.and_eq_true,beq_iff_eq,beq_iff_eq];omega);obtain⟨kn,hkn⟩:∃k,-kk=k:=⟨_,rfl⟩;have HNG:=hid (show IntKind.i64.wrap (-kk)=kn by rw[hkn];exact qT zb zb);rw[if_pos h3,hkn]at hr;have HR3:=hid hr;have HB3:=hid (show -1<=kn/\kn<=1 by omega);clear hr hkk hgb hb0 hba h2 hq3 hna hlt hrb hrn he3 hf3 h3 hkn;go_upto_region 16 with fail;refine rgt S 3 [some 42,some 43,some 44] [IsI k2 ((b:Int)),iV 1,IsV (.bool false)] ?_ ?_
        ·refine Rc zf ?_;refine Rc ze6 ?_;refine Rc (bn (r:=.bool false) (qC 1 43) qE (hr:=λw=>by go_simp)) ?_;exact rn0
        intro v W16 S hH;simp only[lxE,Nat.reduceAdd];rw[show v 2=.bool false from hH 2 dcx];clear hH;go_upto_region 19 with fail;refine rgt S 8 [some 52,some 53,some 54,some 55,some 56,some 57,some 58,some 59] [IsI k2 ((b:Int)),iV (rb:Int),IsV (.bool e3),IsV (.bool e3),IsIf (e3) (IsI k2 ((nn:Int))),IsIf (e3) (iV (rn:Int)),IsIf (e3) (IsV (.bool f3)),IsV (.bool true)] ?_ ?_ (hst:=by repeat' (first|exact trivial|apply IsIf.stb|exact IsV.stb _|exact IsI.stb _ _|apply IsJ.stb|apply IsQ.stb|apply IsF.stb|apply IsT2.stb|apply IsT3.stb|exact IsBo.stb _ _|apply zJ))
        ·refine Rc zf ?_;refine Rc zad ?_;refine Rc zcw ?_;refine Rc (mv (qA 2 54)) ?_;refine RcB 3 55 e3 true (λhb=>by subst hb;exact ldI S 0 (w.heap.size+1) 0 (qD 3) qG) ?_;refine RcB 3 55 e3 true (λhb=>by subst hb;exact cl2 (en func91) (qA (fP:=IsI k2 ((nn:Int))) 4 56) qE (λx0 x1 w' hE d0 d1=>by{obtain rfl:x1=.int .i64 4:=d1;exact zdk})) ?_;refine RcB 3 55 e3 true (λhb=>by subst hb;exact bn (r:=.bool f3) (qC 5 57) qE (hr:=λw=>by have hx9:=HF3.out.1;have hx8:=HF3.out.2;go_simp)) ?_;refine Rc (pkA (b2:=f3) (qC 3 55) (λhb=>by subst hb;exact qA 6 58) (HEF.out)) ?_;exact rn0
        intro v W19 S hH;simp only[lxE,Nat.reduceAdd];rw[show v 7=.bool true from hH 7 dcx];clear hH;go_upto_region 20 with fail;refine rgs 2 [some 60,some 61] [iV kk,iV kn] [] ?_ ?_
        ·refine Rc ja ?_;refine Rc (un (r:=.int .i64 kn) (qC 0 60) (hr:=λw=>by have hx9:=HNG.out;go_simp)) ?_;exact rn0
        intro v W20 e1 hH _;replace S:=S.mono e1;simp only[lxE,Nat.reduceAdd];rw[show v 1=.int .i64 kn from hH 1 dcx];clear hH e1;refine zT λK hK=>?_;go_simp;refine hK _ _ ?_;clear hK K
        refine zF ?_;go_upto_region 21 with fail;have hl:=hid S.lt;have hw:=S.ext.size;refine rgs 4 [some 62,some 63,some 64,some 6] [IsI k2 ((nn:Int)),IsI k2 ((b:Int)),IsI k2 ((na:Int)),IsBo W20 1] [3] ?_ ?_
        ·refine Rc zg ?_;refine Rc zf ?_;refine Rc zal ?_;refine Rc zdi ?_;exact rn0
        intro v W21 e1 hH _;replace S:=S.mono e1;have h64:=hH 2 dcx;obtain⟨g6,v3,q2,b1,_⟩:=(hH 3 dcx:IsBo W20 1 (v 3) W21);replace S:=S.addN 1 (ApartO.old hl.out q2) (zN hw q2) b1;simp only[newF,List.cons_append,List.nil_append]at S;simp only[lxE,Nat.reduceAdd];rw[v3];clear b1 hl hw v3 hH e1
        try simp only[dxE]
        (with_reducible refine stL ?_ zfe);intro KK hKK;refine stI S 0 (g6) 0 h64 qJ (λW21a S2 G2=>hKK _ _ ?_) rfl
        replace S:=S2;clear S2 G2 hKK KK h64;simp only[u0x]at S;refine zF ?_;go_upto_region 22 with fail;refine rgs 1 [some 65] [IsI k2 ((b:Int))] [] ?_ ?_
        ·refine Rc zay ?_;exact rn0
        intro v W22 e1 hH _;replace S:=S.mono e1;have h65:=hH 0 dcx;simp only[lxE];clear hH e1
        try simp only[dxE]
        (with_reducible refine stL ?_ zfe);intro KK hKK;refine stI S 1 (w.heap.size+1) 0 h65 qJ (λW22a S2 G2=>hKK _ _ ?_) rfl
        replace S:=S2;clear S2 G2 hKK KK h65;simp only[u0x,u1x]at S;refine zF ?_;go_upto_region 23 with fail;refine rgs 1 [some 66] [IsI k2 ((na:Int))] [] ?_ ?_
        ·refine Rc za0 ?_;exact rn0
        intro v W23 e1 hH _;replace S:=S.mono e1;have h66:=hH 0 dcx;simp only[lxE];clear hH e1
        try simp only[dxE]
        (with_reducible refine stL ?_ zfe);intro KK hKK;refine stI S 2 (w.heap.size) 0 h66 qJ (λW23a S2 G2=>hKK _ _ ?_) rfl
        replace S:=S2;clear S2 G2 hKK KK h66;simp only[u0x,u1x]at S;refine zF ?_;have S':=S.drop 1;simp only[dxE]at S';have S':=hid S';clear S;go_wp2_with fail
        go_roundg na
        case measure=>have:=HG.out;have:=HO.out;omega
        case rel=>exact⟨na,b,kn,rfl,rfl,HG.out.2.1,HG.out.2.2.1,HG.out.2.2.2,HB3.out,HR3.out,S'⟩
       ·have HEF:=hid (show(e3&&f3)=false by rw[<-he3,<-hf3,Bool.eq_false_iff];intro k;rw[Bool.and_eq_true,beq_iff_eq,beq_iff_eq]at k;exact h3 zb);rw[if_neg h3]at hr;have HR3:=hid hr;have HB3:=hid hkk;clear hr hkk hgb hb0 hba h2 hq3 hna hlt hrb hrn he3 hf3 h3;go_upto_region 16 with fail;refine rgt S 3 [some 42,some 43,some 44] [IsI k2 ((b:Int)),iV 1,IsV (.bool false)] ?_ ?_
        ·refine Rc zf ?_;refine Rc ze6 ?_;refine Rc (bn (r:=.bool false) (qC 1 43) qE (hr:=λw=>by go_simp)) ?_;exact rn0
        intro v W16 S hH;simp only[lxE,Nat.reduceAdd];rw[show v 2=.bool false from hH 2 dcx];clear hH;go_upto_region 19 with fail;refine rgt S 8 [some 52,some 53,some 54,some 55,some 56,some 57,some 58,some 59] [IsI k2 ((b:Int)),iV (rb:Int),IsV (.bool e3),IsV (.bool e3),IsIf (e3) (IsI k2 ((nn:Int))),IsIf (e3) (iV (rn:Int)),IsIf (e3) (IsV (.bool f3)),IsV (.bool false)] ?_ ?_ (hst:=by repeat' (first|exact trivial|apply IsIf.stb|exact IsV.stb _|exact IsI.stb _ _|apply IsJ.stb|apply IsQ.stb|apply IsF.stb|apply IsT2.stb|apply IsT3.stb|exact IsBo.stb _ _|apply zJ))
        ·refine Rc zf ?_;refine Rc zad ?_;refine Rc zcw ?_;refine Rc (mv (qA 2 54)) ?_;refine RcB 3 55 e3 true (λhb=>by subst hb;exact ldI S 0 (w.heap.size+1) 0 (qD 3) qG) ?_;refine RcB 3 55 e3 true (λhb=>by subst hb;exact cl2 (en func91) (qA (fP:=IsI k2 ((nn:Int))) 4 56) qE (λx0 x1 w' hE d0 d1=>by{obtain rfl:x1=.int .i64 4:=d1;exact zdk})) ?_;refine RcB 3 55 e3 true (λhb=>by subst hb;exact bn (r:=.bool f3) (qC 5 57) qE (hr:=λw=>by have hx9:=HF3.out.1;have hx8:=HF3.out.2;go_simp)) ?_;refine Rc (pkA (b2:=f3) (qC 3 55) (λhb=>by subst hb;exact qA 6 58) (HEF.out)) ?_;exact rn0
        intro v W19 S hH;simp only[lxE,Nat.reduceAdd];rw[show v 7=.bool false from hH 7 dcx];clear hH;go_upto_region 21 with fail;have hl:=hid S.lt;have hw:=S.ext.size;refine rgs 4 [some 62,some 63,some 64,some 6] [IsI k2 ((nn:Int)),IsI k2 ((b:Int)),IsI k2 ((na:Int)),IsBo W19 1] [3] ?_ ?_
        ·refine Rc zg ?_;refine Rc zf ?_;refine Rc zal ?_;refine Rc zdi ?_;exact rn0
        intro v W21 e1 hH _;replace S:=S.mono e1;have h64:=hH 2 dcx;obtain⟨g6,v3,q4,b3,_⟩:=(hH 3 dcx:IsBo W19 1 (v 3) W21);replace S:=S.addN 1 (ApartO.old hl.out q4) (zN hw q4) b3;simp only[newF,List.cons_append,List.nil_append]at S;simp only[lxE,Nat.reduceAdd];rw[v3];clear b3 hl hw v3 hH e1
        try simp only[dxE]
        (with_reducible refine stL ?_ zfe);intro KK hKK;refine stI S 0 (g6) 0 h64 qJ (λW21a S2 G2=>hKK _ _ ?_) rfl
        replace S:=S2;clear S2 G2 hKK KK h64;simp only[u0x]at S;refine zF ?_;go_upto_region 22 with fail;refine rgs 1 [some 65] [IsI k2 ((b:Int))] [] ?_ ?_
        ·refine Rc zay ?_;exact rn0
        intro v W22 e1 hH _;replace S:=S.mono e1;have h65:=hH 0 dcx;simp only[lxE];clear hH e1
        try simp only[dxE]
        (with_reducible refine stL ?_ zfe);intro KK hKK;refine stI S 1 (w.heap.size+1) 0 h65 qJ (λW22a S2 G2=>hKK _ _ ?_) rfl
        replace S:=S2;clear S2 G2 hKK KK h65;simp only[u0x,u1x]at S;refine zF ?_;go_upto_region 23 with fail;refine rgs 1 [some 66] [IsI k2 ((na:Int))] [] ?_ ?_
        ·refine Rc za0 ?_;exact rn0
        intro v W23 e1 hH _;replace S:=S.mono e1;have h66:=hH 0 dcx;simp only[lxE];clear hH e1
        try simp only[dxE]
        (with_reducible refine stL ?_ zfe);intro KK hKK;refine stI S 2 (w.heap.size) 0 h66 qJ (λW23a S2 G2=>hKK _ _ ?_) rfl
        replace S:=S2;clear S2 G2 hKK KK h66;simp only[u0x,u1x]at S;refine zF ?_;have S':=S.drop 1;simp only[dxE]at S';have S':=hid S';clear S;go_wp2_with fail
        go_roundg na
        case measure=>have:=HG.out;have:=HO.out;omega
        case rel=>exact⟨na,b,kk,rfl,rfl,HG.out.2.1,HG.out.2.2.1,HG.out.2.2.2,HB3.out,HR3.out,S'⟩
theorem RKron_f{k1 k2 n:Nat}{z:Int}{x y:Value}{w:World}(hx:IsI k1 z x w)(hy:IsI k2 (n:Int) y w)(l1:k1<=67108864)(l2:k2<=67108864)(hn:0<n/\n<=4611686018427387904):Calls prog 48 #[x,y] w (Ret w (iV (kr z n))):=
 RKron_a hx hy (hid ⟨l1,l2⟩) (hid hn) (hid (Int.sign_eq_one_of_pos zb)) (hid zb) (hid rfl)
end Go.Proofs.YtknffgdbdadpcaaGreatDoor
