/-
 Reference of packages count and density: refused, Is, Edge. (Printed by wip/gen/den4.py.)
 Reference of package count: Split. (Printed by wip/gen/den5.py.)
-/
import Derived.Test.YtknffgdbdadpcaaGreatDoorDen2
import Derived.Test.YtknffgdbdadpcaaGreatDoorRGcd
namespace Go.Proofs.YtknffgdbdadpcaaGreatDoor
open Go Go.RowKit
open Go.Proofs.Tryz
theorem zn{P:Prop}(h:P:=by exact cl1 (en func22) qE (λx0 w' hE d0=>by{obtain rfl:x0=.int .i64 1:=d0;exact qL _ 1 dcx dcx})):P:=h
theorem yb{P:Prop}(h:P:=by exact cl1 (en func22) qE (λx0 w' hE d0=>by{obtain rfl:x0=.int .i64 4:=d0;exact qL _ 4 dcx dcx})):P:=h
theorem yh{P:Prop}(h:P:=by exact cl2 (en func31) (qA (fP:=IsI 2 r) 6 9) (qA (fP:=IsI 2 1) 7 10) (λx0 x1 w' hE d0 d1=>zC (jE d0 d1 dcx dcx) λ_ _ h=>h.int HC1.out)):P:=h
theorem yl{P:Prop}(h:P:=by exact bn (r:=.int .i64 (rr:Int)) (qC 0 13) (qC 3 16) (hr:=λw=>by have hx9:=HR.out.1;have hx8:=HR.out.2.1;have hx7:=HR.out.2.2;go_simp)):P:=h
theorem yo{P:Prop}(h:P:=by exact bn (r:=.int .i64 (sq:Int)) (qC 0 6) (qC 1 7) (hr:=λw=>by have hx9:=HSQ.out;go_simp)):P:=h
theorem xv{P:Prop}(h:P:=by exact bn (r:=.int .i64 (g4:Int)) (qC 3 6) qE (hr:=λw=>by have hx9:=HG.out.1;have hx8:=HG.out.2;go_simp)):P:=h
theorem zaj{P:Prop}(h:P:=by exact bn (r:=.bool true) (qC 0 3) qE (hr:=λw=>by have hx9:=HP.out.1;have hx8:=HP.out.2;go_simp)):P:=h
theorem zak{P:Prop}(h:P:=by exact bn (r:=.int .i64 (sq:Int)) (qC 1 14) (qC 2 15) (hr:=λw=>by have hx9:=HSQ.out;go_simp)):P:=h
theorem zau{P:Prop}(h:P:=by exact cl1 (en func156) (qA (fP:=iV (qq:Int)) 11 24) (λx0 w' hE d0=>by{obtain rfl:x0=.int .i64 (qq:Int):=d0;exact zC (Is_f w' qq HQP.out) λ_ _ h=>RetB h HIS.out})):P:=h
theorem za2{P:Prop}(h:P:=by exact bn (r:=.bool true) (qC 2 8) (qC 3 9) (hr:=λw=>by have hx9:=HLE.out;go_simp)):P:=h
theorem zbk{P:Prop}(h:P:=by exact bn (r:=.int .i64 (qq:Int)) (qC 7 20) (qC 10 23) (hr:=λw=>by have hx9:=HQ.out.1;have hx8:=HQ.out.2.1;have hx7:=HQ.out.2.2;go_simp)):P:=h
theorem zbv{P:Prop}(h:P:=by exact cl1 (en func22) qE (λx0 w' hE d0=>by{obtain rfl:x0=.int .i64 (-4194304):=d0;exact qL _ ((-4194304)) dcx dcx})):P:=h
theorem zcf{P:Prop}(h:P:=by exact bn (r:=.int .i64 (g4:Int)) (qC 7 10) qE (hr:=λw=>by have hx9:=HG.out.1;have hx8:=HG.out.2;go_simp)):P:=h
theorem zc4{P:Prop}(h:P:=by exact bn (r:=.int .i64 (sq:Int)) (qC 8 21) (qC 9 22) (hr:=λw=>by have hx9:=HSQ.out;go_simp)):P:=h
set_option maxRecDepth 100000
set_option maxHeartbeats 4000000
theorem rrefused_f{k1 n:Nat}{x:Value}{w:World}(hx:IsI k1 (-(n:Int)) x w)(l1:k1<=131072)(hn:1<=n/\n<=4194304/\(n%4=0\/n%4=3)):Calls prog 63 #[x] w (Ret w (iV 0)):=by
 have HK:=hid l1;obtain⟨q,hq⟩:∃x,(-(n:Int))/4=x:=⟨_,rfl⟩;obtain⟨r,hr⟩:∃x,(-(n:Int))%4=x:=⟨_,rfl⟩;have HQR:=hid (zJ hq hr);have hr1:r<=1:=zb
 have HSG:=hid (show(-(n:Int)).sign= -1 from Int.sign_eq_neg_one_of_neg zb);obtain⟨cq,hcq⟩:∃x,qK r 1=x:=⟨_,rfl⟩;have HC1:=hid hcq
 have HC1B:=hid (show decide (0<cq)=false by
  rw[<-hcq,zK];unfold qK
  split
  ·decide
  ·rw[if_neg (by omega)];decide)
 obtain⟨cr,hcr⟩:∃x,qK (-(n:Int)) (-4194304)=x:=⟨_,rfl⟩;have HC2:=hid hcr
 have HC2B:=hid (show decide (cr<0)=false by
  rw[<-hcr,zK];unfold qK;rw[if_neg (by omega)]
  split <;> decide)
 clear l1 hn hq hr hr1 hcq hcr;obtain⟨s1,a1,n1,c1,W,rfl,hW,S⟩:=en1 hx;go_enter func63,ntmps63;go_upto_region 1 with fail;rw[<-hW];clear hW;refine rg 11 [some 3,some 4,some 5,some 6,some 7,some 8,some 9,some 10,some 11,some 12,some 13] [IsI k1 (-(n:Int)),iV (-1),IsV (.bool false),IsV (.bool false),IsI k1 (-(n:Int)),IsI 2 4,IsI 2 r,IsI 2 1,iV cq,IsV (.bool false),IsV (.bool false)] [] 0 ?_ ?_
 ·refine Rc zj ?_;refine Rc (cl1 (en func65) (qA (fP:=IsI k1 (-(n:Int))) 0 3) (λx0 w' hE d0=>zC (xN d0) λ_ _ h=>h.int HSG.out)) ?_;refine Rc (bn (r:=.bool false) (qC 1 4) qE (hr:=λw=>by go_simp)) ?_;refine Rc (mv (qA 2 5)) ?_;refine RcG 3 6 false zj ?_;refine RcG 3 6 false yb ?_;refine RcG 3 6 false (cl2 (en func94) (qA (fP:=IsI k1 (-(n:Int))) 4 7) (qA (fP:=IsI 2 4) 5 8) (λx0 x1 w' hE d0 d1=>zC (RMod_f d0 d1 zl dcx dcx) λ_ _ h=>h.eqz HQR.out.2)) ?_;refine RcG 3 6 false zn ?_;refine RcG 3 6 false yh ?_;refine RcG 3 6 false (bn (r:=.bool false) (qC 8 11) qE (hr:=λw=>by have hx9:=HC1B.out;go_simp)) ?_;refine Rc (pk (qC 3 6) (qA 9 12)) ?_;exact rn0
 intro v W1 e1 hH _;replace S:=S.mono e1;simp only[lxE,Nat.reduceAdd];rw[show v 10=.bool false from hH 10 dcx];clear hH e1;refine zO za ?_ _;go_upto_region 3 with fail;refine rg 4 [some 14,some 15,some 16,some 17] [IsI k1 (-(n:Int)),IsI 2 ((-4194304)),iV cr,IsV (.bool false)] [] 0 ?_ ?_
 ·refine Rc zj ?_;refine Rc zbv ?_;refine Rc (cl2 (en func31) (qA (fP:=IsI k1 (-(n:Int))) 0 14) (qA (fP:=IsI 2 ((-4194304))) 1 15) (λx0 x1 w' hE d0 d1=>zC (jE d0 d1 zl dcx) λ_ _ h=>h.int HC2.out)) ?_;refine Rc (bn (r:=.bool false) (qC 2 16) qE (hr:=λw=>by have hx9:=HC2B.out;go_simp)) ?_;exact rn0
 intro v W3 e1 hH _;replace S:=S.mono e1;simp only[lxE,Nat.reduceAdd];rw[show v 3=.bool false from hH 3 dcx];clear hH e1;refine zO za ?_ _;go_upto_region 5 with fail;refine rgt S 1 [some 2] [iV 0] ?_ ?_
 ·refine Rc zaf ?_;exact rn0
 intro v W5 S hH;simp only[lxE];rw[show v 0=.int .i64 0 from hH 0 dcx];clear hH;go_wp2_with fail;exact zD (v:=.int .i64 0) (by simp[results,results63,go_sem]) rfl (⟨_,rfl,S.ext,rfl⟩)
theorem tDen5_1{P:Prop}(h:P:=by
  intro v W1 e1 hH _;replace S:=S.mono e1;simp only[lxE,Nat.reduceAdd];rw[show v 12=.bool true from hH 12 dcx];clear hH e1;refine zF ?_;go_wp2_with fail;exact zD (v:=.bool true) (by simp[results,results156,go_sem]) rfl (⟨_,rfl,S.ext,rfl⟩)
  ):P:=h
theorem Is_0(w:World)(q g4:Nat)(HP:Hid ((0:Int)<(q:Int)/\0<q))(HG:Hid ((q:Int)%4=(g4:Int)/\((q:Int)).tmod 4=(g4:Int)))(HG0:Hid (((g4:Int)==0)=true)):Calls prog 156 #[.int .i64 (q:Int)] w (Ret w (IsV (.bool true))):=by
 obtain⟨W,hW,S⟩:∃W,W=w/\Sto w W []:=⟨_,rfl,(Sto.start w)⟩;go_enter func156,ntmps156;go_upto_region 1 with fail;rw[<-hW];clear hW;refine rgs 13 [some 3,some 4,some 5,some 6,some 7,some 8,some 9,some 10,some 11,some 12,some 13,some 14,some 2] [iV (q:Int),IsV (.bool true),IsV (.bool true),iV (q:Int),iV (g4:Int),IsV (.bool true),IsV (.bool true),IsV (undef),IsV (undef),IsV (undef),IsV (.bool true),IsV (.bool true),IsV (.bool true)] [] ?_ ?_
 ·refine Rc jm ?_;refine Rc zaj ?_;refine Rc (mv (qA 1 4)) ?_;refine RcG 2 5 true jm ?_;refine RcG 2 5 true xv ?_;refine RcG 2 5 true (bn (r:=.bool true) (qC 4 7) qE (hr:=λw=>by have hx9:=HG0.out;go_simp)) ?_;refine RcG 2 5 true (mv (qA 5 8)) ?_;refine RcN 6 9 true ?_;refine RcN 6 9 true ?_;refine RcN 6 9 true ?_;refine RcG 2 5 true (pk (qC 6 9) qE) ?_;refine Rc (pk (qC 2 5) (qA 10 13)) ?_;refine Rc (mv (qA 11 14)) ?_;exact rn0
 exact tDen5_1
theorem Is_3(w:World)(q g4:Nat)(HP:Hid ((0:Int)<(q:Int)/\0<q))(HG:Hid ((q:Int)%4=(g4:Int)/\((q:Int)).tmod 4=(g4:Int)))(HG0:Hid (((g4:Int)==0)=false))(HG3:Hid (((g4:Int)==3)=true)):Calls prog 156 #[.int .i64 (q:Int)] w (Ret w (IsV (.bool true))):=by
 obtain⟨W,hW,S⟩:∃W,W=w/\Sto w W []:=⟨_,rfl,(Sto.start w)⟩;go_enter func156,ntmps156;go_upto_region 1 with fail;rw[<-hW];clear hW;refine rgs 13 [some 3,some 4,some 5,some 6,some 7,some 8,some 9,some 10,some 11,some 12,some 13,some 14,some 2] [iV (q:Int),IsV (.bool true),IsV (.bool true),iV (q:Int),iV (g4:Int),IsV (.bool false),IsV (.bool false),iV (q:Int),iV (g4:Int),IsV (.bool true),IsV (.bool true),IsV (.bool true),IsV (.bool true)] [] ?_ ?_
 ·refine Rc jm ?_;refine Rc zaj ?_;refine Rc (mv (qA 1 4)) ?_;refine RcG 2 5 true jm ?_;refine RcG 2 5 true xv ?_;refine RcG 2 5 true (bn (r:=.bool false) (qC 4 7) qE (hr:=λw=>by have hx9:=HG0.out;go_simp)) ?_;refine RcG 2 5 true (mv (qA 5 8)) ?_;refine RcG 6 9 false jm ?_;refine RcG 6 9 false zcf ?_;refine RcG 6 9 false (bn (r:=.bool true) (qC 8 11) qE (hr:=λw=>by have hx9:=HG3.out;go_simp)) ?_;refine RcG 2 5 true (pk (qC 6 9) (qA 9 12)) ?_;refine Rc (pk (qC 2 5) (qA 10 13)) ?_;refine Rc (mv (qA 11 14)) ?_;exact rn0
 exact tDen5_1
theorem Is_x(w:World)(q g4:Nat)(HP:Hid ((0:Int)<(q:Int)/\0<q))(HG:Hid ((q:Int)%4=(g4:Int)/\((q:Int)).tmod 4=(g4:Int)))(HG0:Hid (((g4:Int)==0)=false))(HG3:Hid (((g4:Int)==3)=false)):Calls prog 156 #[.int .i64 (q:Int)] w (Ret w (IsV (.bool false))):=by
 obtain⟨W,hW,S⟩:∃W,W=w/\Sto w W []:=⟨_,rfl,(Sto.start w)⟩;go_enter func156,ntmps156;go_upto_region 1 with fail;rw[<-hW];clear hW;refine rgt S 13 [some 3,some 4,some 5,some 6,some 7,some 8,some 9,some 10,some 11,some 12,some 13,some 14,some 2] [iV (q:Int),IsV (.bool true),IsV (.bool true),iV (q:Int),iV (g4:Int),IsV (.bool false),IsV (.bool false),iV (q:Int),iV (g4:Int),IsV (.bool false),IsV (.bool false),IsV (.bool false),IsV (.bool false)] ?_ ?_
 ·refine Rc jm ?_;refine Rc zaj ?_;refine Rc (mv (qA 1 4)) ?_;refine RcG 2 5 true jm ?_;refine RcG 2 5 true xv ?_;refine RcG 2 5 true (bn (r:=.bool false) (qC 4 7) qE (hr:=λw=>by have hx9:=HG0.out;go_simp)) ?_;refine RcG 2 5 true (mv (qA 5 8)) ?_;refine RcG 6 9 false jm ?_;refine RcG 6 9 false zcf ?_;refine RcG 6 9 false (bn (r:=.bool false) (qC 8 11) qE (hr:=λw=>by have hx9:=HG3.out;go_simp)) ?_;refine RcG 2 5 true (pk (qC 6 9) (qA 9 12)) ?_;refine Rc (pk (qC 2 5) (qA 10 13)) ?_;refine Rc (mv (qA 11 14)) ?_;exact rn0
 intro v W1 S hH;simp only[lxE,Nat.reduceAdd];rw[show v 12=.bool false from hH 12 dcx];clear hH;go_wp2_with fail;exact zD (v:=.bool false) (by simp[results,results156,go_sem]) rfl (⟨_,rfl,S.ext,rfl⟩)
theorem Is_f(w:World)(q:Nat)(hq:0<q):Calls prog 156 #[.int .i64 (q:Int)] w (Ret w (IsV (.bool (isD q)))):=by
 obtain⟨g4,hg⟩:∃g,q%4=g:=⟨_,rfl⟩;have HG:=hid (show(q:Int)%4=(g4:Int)/\((q:Int)).tmod 4=(g4:Int)by rw[zG (by omega)];omega);have HP:=hid (show(0:Int)<(q:Int)/\0<q by omega);have hi:isD q=(g4==0||g4==3):=by unfold isD;rw[hg]
 rw[hi];by_cases h0:g4=0
 ·subst h0;exact Is_0 w q 0 HP HG (hid dcx)
 ·have b0:((g4:Int)==0)=false:=by rw[zH];omega
  have b1:(g4==0)=false:=by rw[zH];exact h0
  rw[b1,Bool.false_or];by_cases h3:g4=3
  ·subst h3;exact Is_3 w q 3 HP HG (hid b0) (hid dcx)
  ·rw[show(g4==3)=false from by rw[zH];exact h3];exact Is_x w q g4 HP HG (hid b0) (hid jk)
theorem Split_f(w:World)(n L:Nat)(hn:1<=n/\n<=4194304)(hL:L*L<=n/\n<(L+1)*(L+1)):Calls prog 119 #[.int .i64 (n:Int)] w (Ret w (IsT2 (iV ((n/(cdB n L*cdB n L):Nat):Int)) (iV ((cdB n L:Nat):Int)))):=by
 have HNN:=hid hn;have HL:=hid hL;clear hn hL;obtain⟨W,hW,S⟩:∃W,W=w/\Sto w W []:=⟨_,rfl,(Sto.start w)⟩;go_enter func119,ntmps119;go_upto_region 1 with fail;rw[<-hW];clear hW;refine rgt S 1 [some 4] [iV 1] ?_ ?_
 ·refine Rc zaf ?_;exact rn0
 intro v W1 S hH;simp only[lxE];rw[show v 0=.int .i64 1 from hH 0 dcx];clear hH;go_upto_region 2 with fail;refine rgt S 1 [some 5] [iV 1] ?_ ?_
 ·refine Rc zaf ?_;exact rn0
 intro v W2 S hH;simp only[lxE];rw[show v 0=.int .i64 1 from hH 0 dcx];clear hH;go_wp2_with fail;have S0:=hid S;clear S;have HNI:=HNN.out
 go_loopg [4,5] 2050 (λgk v4 v5 wr=>∃K f:Nat,v5=.int .i64 (((K+1:Nat):Nat):Int)/\v4=.int .i64 (f:Int)/\f=cdB n K/\K*K<=n/\K+gk=2050/\Hid (Sto w wr []))
 case atStart=>exact⟨0,1,rfl,rfl,rfl,by omega,rfl,S0⟩
 case round=>
  clear S0;obtain⟨K,f,rfl,rfl,hf,hKn,hg,S⟩:=hrel;have S:=S.out;obtain⟨k,hk⟩:∃k,K+1=k:=⟨_,rfl⟩;rw[hk];have hK48:K<=2048:=zb2
  obtain⟨sq,hsq⟩:∃s,k*k=s:=⟨_,rfl⟩;have hsqI:(k:Int)*(k:Int)=(sq:Int):=zdb
  have hsqb:sq<=4200000:=zdo
  have hsqp:1<=sq:=by have:=Nat.mul_le_mul (show 1<=k by omega) (show 1<=k by omega);omega
  have HSQ:=hid (show IntKind.i64.wrap ((k:Int)*(k:Int))=(sq:Int)by rw[hsqI];simp only[IntKind.wrap_i64];omega);by_cases hle:sq<=n
  ·obtain⟨qq,hqq⟩:∃q,n/sq=q:=⟨_,rfl⟩;obtain⟨rr,hrr⟩:∃q,n%sq=q:=⟨_,rfl⟩;have hqn:qq<=n:=by rw[<-hqq];exact Nat.div_le_self _ _
   have hqp:0<qq:=by rw[<-hqq];exact Nat.div_pos hle hsqp
   have hrn:rr<sq:=by rw[<-hrr];exact zR _ hsqp
   have HLE:=hid (show(sq:Int)<=(n:Int)by omega);have HQP:=hid hqp;have htd:((n:Int)).tdiv (sq:Int)=(qq:Int):=by rw[Int.tdiv_eq_ediv_of_nonneg (by omega),<-hqq];rfl
   have htm:((n:Int)).tmod (sq:Int)=(rr:Int):=by rw[zG (by omega),<-hrr];rfl
   have HQ:=hid (show((n:Int)).tdiv (sq:Int)=(qq:Int)/\IntKind.i64.wrap (qq:Int)=(qq:Int)/\¬sq=0 from⟨htd,by simp only[IntKind.wrap_i64];omega,by omega⟩);have HR:=hid (show((n:Int)).tmod (sq:Int)=(rr:Int)/\IntKind.i64.wrap (rr:Int)=(rr:Int)/\¬sq=0 from⟨htm,by simp only[IntKind.wrap_i64];omega,by omega⟩);have HADD:=hid (show IntKind.i64.wrap ((k:Int)+1)=(k:Int)+1 by simp only[IntKind.wrap_i64];omega);have HHN:=hid (show K+1=k/\K+gk=2050/\K<=2048 from⟨hk,hg,hK48⟩);have HKK2:=hid (show k*k<=n by rw[hsq];exact hle)
   have hcd:cdB n k=if 1<=K/\rr=0/\isD qq=true then k else f:=by
    rw[<-hk];unfold cdB;rw[hk,hsq,hrr,hqq,<-hf]
   have hf1:K=0->f=1/\k=1:=λh=>by subst h;exact⟨hf,hk.symm⟩
   by_cases hr0:rr=0
   ·cases hi:isD qq
    ·skip;have HR0:=hid (show((rr:Int)==0)=true by rw[beq_iff_eq];omega);have HIS:=hid (show isD qq=false from hi);have HCD:=hid (show f=cdB n k by rw[hcd,if_neg (by rintro⟨_,h1,h2⟩;rw[hi]at h2;exact absurd h2 dcx)]);clear hf hKn hg hk hK48 hsq hsqI hsqb hsqp hle hqq hrr hqn hqp hrn htd htm hcd hf1 HNI hr0 hi;go_upto_region 3 with fail;refine rgt S 5 [some 6,some 7,some 8,some 9,some 10] [iV (k:Int),iV (k:Int),iV (sq:Int),iV (n:Int),IsV (.bool true)] ?_ ?_
     ·refine Rc ja ?_;refine Rc ja ?_;refine Rc yo ?_;refine Rc jm ?_;refine Rc za2 ?_;exact rn0
     intro v W3 S hH;simp only[lxE,Nat.reduceAdd];rw[show v 4=.bool true from hH 4 dcx];clear hH;go_upto_region 5 with fail;refine rgt S 14 [some 13,some 14,some 15,some 16,some 17,some 18,some 19,some 20,some 21,some 22,some 23,some 24,some 25,some 26] [iV (n:Int),iV (k:Int),iV (k:Int),iV (sq:Int),iV (rr:Int),IsV (.bool true),IsV (.bool true),iV (n:Int),iV (k:Int),iV (k:Int),iV (sq:Int),iV (qq:Int),IsV (.bool false),IsV (.bool false)] ?_ ?_
     ·refine Rc jm ?_;refine Rc ja ?_;refine Rc ja ?_;refine Rc zak ?_;refine Rc yl ?_;refine Rc (bn (r:=.bool true) (qC 4 17) qE (hr:=λw=>by have hx9:=HR0.out;go_simp)) ?_;refine Rc (mv (qA 5 18)) ?_;refine RcG 6 19 true jm ?_;refine RcG 6 19 true ja ?_;refine RcG 6 19 true ja ?_;refine RcG 6 19 true zc4 ?_;refine RcG 6 19 true zbk ?_;refine RcG 6 19 true zau ?_;refine Rc (pk (qC 6 19) (qA 12 25)) ?_;exact rn0
     intro v W5 S hH;simp only[lxE,Nat.reduceAdd];rw[show v 13=.bool false from hH 13 dcx];clear hH;have hx9:=HADD.out;have S':=hid S;clear S;go_wp2_with fail
     go_roundg (gk-1)
     case measure=>have:=HHN.out;omega
     case rel=>exact⟨k,f,by rw[zV];rfl,rfl,HCD.out,HKK2.out,by have:=HHN.out;omega,S'⟩
    ·skip;have HR0:=hid (show((rr:Int)==0)=true by rw[beq_iff_eq];omega);have HIS:=hid (show isD qq=true from hi)
     have HCD:=hid (show k=cdB n k by
      rw[hcd];by_cases h1:1<=K
      ·rw[if_pos ⟨h1,hr0,hi⟩]
      ·rw[if_neg (λh=>h1 h.1)];have:=hf1 zb;omega)
     clear hf hKn hg hk hK48 hsq hsqI hsqb hsqp hle hqq hrr hqn hqp hrn htd htm hcd hf1 HNI hr0 hi;go_upto_region 3 with fail;refine rgt S 5 [some 6,some 7,some 8,some 9,some 10] [iV (k:Int),iV (k:Int),iV (sq:Int),iV (n:Int),IsV (.bool true)] ?_ ?_
     ·refine Rc ja ?_;refine Rc ja ?_;refine Rc yo ?_;refine Rc jm ?_;refine Rc za2 ?_;exact rn0
     intro v W3 S hH;simp only[lxE,Nat.reduceAdd];rw[show v 4=.bool true from hH 4 dcx];clear hH;go_upto_region 5 with fail;refine rgt S 14 [some 13,some 14,some 15,some 16,some 17,some 18,some 19,some 20,some 21,some 22,some 23,some 24,some 25,some 26] [iV (n:Int),iV (k:Int),iV (k:Int),iV (sq:Int),iV (rr:Int),IsV (.bool true),IsV (.bool true),iV (n:Int),iV (k:Int),iV (k:Int),iV (sq:Int),iV (qq:Int),IsV (.bool true),IsV (.bool true)] ?_ ?_
     ·refine Rc jm ?_;refine Rc ja ?_;refine Rc ja ?_;refine Rc zak ?_;refine Rc yl ?_;refine Rc (bn (r:=.bool true) (qC 4 17) qE (hr:=λw=>by have hx9:=HR0.out;go_simp)) ?_;refine Rc (mv (qA 5 18)) ?_;refine RcG 6 19 true jm ?_;refine RcG 6 19 true ja ?_;refine RcG 6 19 true ja ?_;refine RcG 6 19 true zc4 ?_;refine RcG 6 19 true zbk ?_;refine RcG 6 19 true zau ?_;refine Rc (pk (qC 6 19) (qA 12 25)) ?_;exact rn0
     intro v W5 S hH;simp only[lxE,Nat.reduceAdd];rw[show v 13=.bool true from hH 13 dcx];clear hH;go_upto_region 6 with fail;refine rgt S 2 [some 27,some 4] [iV (k:Int),iV (k:Int)] ?_ ?_
     ·refine Rc ja ?_;refine Rc (mv (qA 0 27)) ?_;exact rn0
     intro v W6 S hH;simp only[lxE,Nat.reduceAdd];rw[show v 1=.int .i64 (k:Int)from hH 1 dcx];clear hH;have hx9:=HADD.out;have S':=hid S;clear S;go_wp2_with fail
     go_roundg (gk-1)
     case measure=>have:=HHN.out;omega
     case rel=>exact⟨k,k,by rw[zV];rfl,rfl,HCD.out,HKK2.out,by have:=HHN.out;omega,S'⟩
   ·skip;have HR0:=hid (show((rr:Int)==0)=false by rw[zH];omega);have HCD:=hid (show f=cdB n k by rw[hcd,if_neg (by rintro⟨_,h1,h2⟩;exact hr0 h1)]);clear hf hKn hg hk hK48 hsq hsqI hsqb hsqp hle hqq hrr hqn hqp hrn htd htm hcd hf1 HNI hr0;go_upto_region 3 with fail;refine rgt S 5 [some 6,some 7,some 8,some 9,some 10] [iV (k:Int),iV (k:Int),iV (sq:Int),iV (n:Int),IsV (.bool true)] ?_ ?_
    ·refine Rc ja ?_;refine Rc ja ?_;refine Rc yo ?_;refine Rc jm ?_;refine Rc za2 ?_;exact rn0
    intro v W3 S hH;simp only[lxE,Nat.reduceAdd];rw[show v 4=.bool true from hH 4 dcx];clear hH;go_upto_region 5 with fail;refine rgt S 14 [some 13,some 14,some 15,some 16,some 17,some 18,some 19,some 20,some 21,some 22,some 23,some 24,some 25,some 26] [iV (n:Int),iV (k:Int),iV (k:Int),iV (sq:Int),iV (rr:Int),IsV (.bool false),IsV (.bool false),IsV (undef),IsV (undef),IsV (undef),IsV (undef),IsV (undef),IsV (undef),IsV (.bool false)] ?_ ?_
    ·refine Rc jm ?_;refine Rc ja ?_;refine Rc ja ?_;refine Rc zak ?_;refine Rc yl ?_;refine Rc (bn (r:=.bool false) (qC 4 17) qE (hr:=λw=>by have hx9:=HR0.out;go_simp)) ?_;refine Rc (mv (qA 5 18)) ?_;refine RcN 6 19 false ?_;refine RcN 6 19 false ?_;refine RcN 6 19 false ?_;refine RcN 6 19 false ?_;refine RcN 6 19 false ?_;refine RcN 6 19 false ?_;refine Rc (pk (qC 6 19) qE) ?_;exact rn0
    intro v W5 S hH;simp only[lxE,Nat.reduceAdd];rw[show v 13=.bool false from hH 13 dcx];clear hH;have hx9:=HADD.out;have S':=hid S;clear S;go_wp2_with fail
    go_roundg (gk-1)
    case measure=>have:=HHN.out;omega
    case rel=>exact⟨k,f,by rw[zV];rfl,rfl,HCD.out,HKK2.out,by have:=HHN.out;omega,S'⟩
  ·skip;obtain rfl:K=L:=sqrt_uniq hKn (by rw[hk,hsq];omega) HL.out.1 HL.out.2;have HGT:=hid (show(n:Int)<(sq:Int)/\n<sq by omega);have hfb:=cdB_pos n K;rw[<-hf]at hfb;obtain⟨ff,hff⟩:∃s,f*f=s:=⟨_,rfl⟩;have hffb:ff<=4300000/\1<=ff:=by have h1:=Nat.mul_le_mul (show f<=2049 by omega) (show f<=2049 by omega);have h2:=Nat.mul_le_mul hfb.1 hfb.1;omega
   have HFF:=hid (show IntKind.i64.wrap ((f:Int)*(f:Int))=(ff:Int)by rw[<-Int.natCast_mul,hff];simp only[IntKind.wrap_i64];omega);obtain⟨dq,hdq⟩:∃q,n/ff=q:=⟨_,rfl⟩;have hdqb:dq<=n:=by rw[<-hdq];exact Nat.div_le_self _ _
   have HDQ:=hid (show((n:Int)).tdiv (ff:Int)=(dq:Int)/\IntKind.i64.wrap (dq:Int)=(dq:Int)/\¬ff=0 from⟨by rw[Int.tdiv_eq_ediv_of_nonneg (by omega),<-hdq];rfl,by simp only[IntKind.wrap_i64];omega,by omega⟩);have HE:=hid (show f=cdB n K/\dq=n/(cdB n K*cdB n K)from⟨hf,by rw[<-hf,hff,hdq]⟩);clear hf hKn hg hk hK48 hsq hsqI hsqb hsqp hle hfb hff hffb hdq hdqb HNI;go_upto_region 3 with fail;refine rgt S 5 [some 6,some 7,some 8,some 9,some 10] [iV (k:Int),iV (k:Int),iV (sq:Int),iV (n:Int),IsV (.bool false)] ?_ ?_
   ·refine Rc ja ?_;refine Rc ja ?_;refine Rc yo ?_;refine Rc jm ?_;refine Rc (bn (r:=.bool false) (qC 2 8) (qC 3 9) (hr:=λw=>by have hx9:=HGT.out.1;have hx8:=HGT.out.2;go_simp)) ?_;exact rn0
   intro v W3 S hH;simp only[lxE,Nat.reduceAdd];rw[show v 4=.bool false from hH 4 dcx];clear hH;go_upto_region 7 with fail;refine rgt S 8 [some 28,some 29,some 30,some 31,some 32,some 33,some 2,some 3] [iV (n:Int),iV (f:Int),iV (f:Int),iV (ff:Int),iV (dq:Int),iV (f:Int),iV (dq:Int),iV (f:Int)] ?_ ?_
   ·refine Rc jm ?_;refine Rc zdf ?_;refine Rc zdf ?_;refine Rc (bn (r:=.int .i64 (ff:Int)) (qC 1 29) (qC 2 30) (hr:=λw=>by have hx9:=HFF.out;go_simp)) ?_;refine Rc (bn (r:=.int .i64 (dq:Int)) (qC 0 28) (qC 3 31) (hr:=λw=>by have hx9:=HDQ.out.1;have hx8:=HDQ.out.2.1;have hx7:=HDQ.out.2.2;go_simp)) ?_;refine Rc zdf ?_;refine Rc (mv (qA 4 32)) ?_;refine Rc (mv (qA 5 33)) ?_;exact rn0
   intro v W7 S hH;simp only[lxE,Nat.reduceAdd];rw[show v 6=.int .i64 (dq:Int)from hH 6 dcx,show v 7=.int .i64 (f:Int)from hH 7 dcx];clear hH;go_wp2_with fail;exact zD (v:=.tuple #[.int .i64 (dq:Int),.int .i64 (f:Int)]) (by simp[results,results119,go_sem]) rfl (⟨_,rfl,S.ext,⟨_,_,rfl,by rw[<-HE.out.2];rfl,by rw[<-HE.out.1];rfl⟩⟩)
end Go.Proofs.YtknffgdbdadpcaaGreatDoor
