/-
 Package count: Conductor, at a discriminant. (Printed by wip/gen/den2.py.)
-/
import Derived.Test.YtknffgdbdadpcaaGreatDoorDen1
namespace Go.Proofs.YtknffgdbdadpcaaGreatDoor
open Go Go.RowKit
theorem zek{P:Prop}(h:P:=by exact⟨_,rfl,((((Sto.start w).new1 (w.heap.size) zh s1 a1 n1 c1 33 (IsI k1 (-(n:Int))) (IsI.gstb _ _) (h1)).new1 (w.heap.size+1) zh false none 0 0 33 (IsI 0 0) (IsI.gstb _ _) (IsI.nil _ _)).new1 (w.heap.size+1+1) zh false none 0 0 33 (IsI 0 0) (IsI.gstb _ _) (IsI.nil _ _))⟩):P:=h
theorem jc{P:Prop}(h:P:=by exact bn (r:=.bool false) (qC 0 11) qE (hr:=λw=>by go_simp)):P:=h
theorem jf{P:Prop}(h:P:=by exact bn (r:=.int .i64 (qq:Int)) (qC 0 27) (qC 3 30) (hr:=λw=>by have hx9:=HQ.out.1;have hx8:=HQ.out.2.1;have hx7:=HQ.out.2.2;go_simp)):P:=h
theorem jg{P:Prop}(h:P:=by exact bn (r:=.int .i64 (rr:Int)) (qC 0 32) (qC 3 35) (hr:=λw=>by have hx9:=HR.out.1;have hx8:=HR.out.2.1;have hx7:=HR.out.2.2;go_simp)):P:=h
theorem ji{P:Prop}(h:P:=by exact bn (r:=.int .i64 (sq:Int)) (qC 0 20) (qC 1 21) (hr:=λw=>by have hx9:=HSQ.out;go_simp)):P:=h
theorem jo{P:Prop}(h:P:=by have:=HK.out.2;omega):P:=h
theorem yj{P:Prop}(h:P:=by exact bn (r:=.int .i64 (sq:Int)) (qC 1 28) (qC 2 29) (hr:=λw=>by have hx9:=HSQ.out;go_simp)):P:=h
theorem yk{P:Prop}(h:P:=by exact bn (r:=.int .i64 (sq:Int)) (qC 1 33) (qC 2 34) (hr:=λw=>by have hx9:=HSQ.out;go_simp)):P:=h
theorem yt{P:Prop}(h:P:=by exact bn (r:=.bool true) (qC 2 22) (qC 3 23) (hr:=λw=>by have hx9:=HLE.out;go_simp)):P:=h
theorem xn{P:Prop}(h:P:=by exact bn (r:=.int .i64 (g4:Int)) (qC 7 39) qE (hr:=λw=>by have hx9:=HG.out.1;have hx8:=HG.out.2;go_simp)):P:=h
theorem zba{P:Prop}(h:P:=by exact bn (r:=.bool true) (qC 4 36) qE (hr:=λw=>by have hx9:=HR0.out;go_simp)):P:=h
theorem zbo{P:Prop}(h:P:=by exact mv (qA 1 10)):P:=h
theorem zbx{P:Prop}(h:P:=by exact ldI S 0 (g7) 0 (qD 7) qG):P:=h
theorem zb2{P:Prop}(h:P:=by refine Nat.not_lt.1 λh=>?_;have:=Nat.mul_le_mul (show 2049<=K from h) (show 2049<=K from h);omega):P:=h
theorem zcd{P:Prop}(h:P:=by exact bn (r:=.int .i64 (g4:Int)) (qC 11 43) qE (hr:=λw=>by have hx9:=HG.out.1;have hx8:=HG.out.2;go_simp)):P:=h
theorem zcg{P:Prop}(h:P:=by rw[v6,v7,h]):P:=h
theorem zdb{P:Prop}(h:P:=by rw[<-hsq,Int.natCast_mul]):P:=h
theorem zdg{P:Prop}(h:P:=by exact mv (qD 9)):P:=h
theorem zdo{P:Prop}(h:P:=by have:=Nat.mul_le_mul (show k<=2049 by omega) (show k<=2049 by omega);omega):P:=h
set_option maxRecDepth 100000
set_option maxHeartbeats 4000000
def cdD(n L:Nat):Int:=(-(n:Int)).tdiv ((cdB n L*cdB n L:Nat):Int)
theorem Conductor_f{k1 n L:Nat}{x:Value}{w:World}(hx:IsI k1 (-(n:Int)) x w)(l1:k1<=16777216)(hn:1<=n/\n<=4194304/\(n%4=0\/n%4=3))(hL:L*L<=n/\n<(L+1)*(L+1)):Calls Tryz.prog 29 #[x] w (Ret w (IsT3 (IsI 2 (cdD n L)) (IsI 2 ((cdB n L:Nat):Int)) (iV 0))):=by
 have HK:=hid l1;have HNN:=hid hn;have HL:=hid hL;clear l1 hn hL;obtain⟨s1,a1,n1,c1,rfl,h1⟩:=hx;have h1:IsI _ _ _ w:=⟨_,_,_,_,rfl,h1⟩;obtain⟨W,hW,S⟩:∃W,W=((w.alloc (.cells #[.bool s1,.slice a1 n1 c1] 33)).alloc (.cells #[.bool false,.slice none 0 0] 33)).alloc (.cells #[.bool false,.slice none 0 0] 33)/\Sto w W [((w.heap.size+1+1,0),IsI 0 0),((w.heap.size+1,0),IsI 0 0),((w.heap.size,0),IsI k1 (-(n:Int)))]:=zek;clear h1;go_enter Tryz.func29,Tryz.ntmps29;go_upto_region 1 with fail;rw[<-hW];clear hW;refine rgt S 7 [some 11,some 12,some 10,some 13,some 14,some 5,some 6] [IsI k1 (-(n:Int)),IsT2 (iV (n:Int)) (iV 0),IsT2 (iV (n:Int)) (iV 0),iV (n:Int),iV 0,iV (n:Int),iV 0] ?_ ?_
 ·refine Rc zv ?_;refine Rc (cl1 (en Tryz.func74) (qA (fP:=IsI k1 (-(n:Int))) 0 11) (λx0 w' hE d0=>csize_f d0 HK.out HNN.out)) ?_;refine Rc (mv (qA 1 12)) ?_;refine Rc (ex (qC 2 10) t20) ?_;refine Rc (ex (qC 2 10) t21) ?_;refine Rc (mv (qA 3 13)) ?_;refine Rc (mv (qA 4 14)) ?_;exact rn0
 intro v W1 S hH;simp only[lxE,Nat.reduceAdd];rw[show v 5=.int .i64 (n:Int)from hH 5 dcx,show v 6=.int .i64 0 from hH 6 dcx];clear hH;go_upto_region 2 with fail;refine rgt S 2 [some 15,some 16] [iV 0,IsV (.bool false)] ?_ ?_
 ·refine Rc zaa ?_;refine Rc (bn (r:=.bool false) (qC 0 15) qE (hr:=λw=>by go_simp)) ?_;exact rn0
 intro v W2 S hH;simp only[lxE,Nat.reduceAdd];rw[show v 1=.bool false from hH 1 dcx];clear hH;go_upto_region 4 with fail;refine rgt S 1 [some 7] [iV 1] ?_ ?_
 ·refine Rc zaf ?_;exact rn0
 intro v W4 S hH;simp only[lxE];rw[show v 0=.int .i64 1 from hH 0 dcx];clear hH;go_upto_region 5 with fail;refine rgt S 1 [some 8] [iV 2] ?_ ?_
 ·refine Rc zaf ?_;exact rn0
 intro v W5 S hH;simp only[lxE];rw[show v 0=.int .i64 2 from hH 0 dcx];clear hH;go_wp2_with fail;have S0:=hid S;clear S;have HNI:=HNN.out
 go_loopg [7,8] 2049 (λgk v7 v8 wr=>∃K f:Nat,v8=.int .i64 (((K+1:Nat):Nat):Int)/\v7=.int .i64 (f:Int)/\f=cdB n K/\1<=K/\K*K<=n/\K+gk=2050/\Hid (Sto w wr [((w.heap.size+1+1,0),IsI 0 0),((w.heap.size+1,0),IsI 0 0),((w.heap.size,0),IsI k1 (-(n:Int)))]))
 case atStart=>exact⟨1,1,rfl,rfl,by simp[cdB],zL _,by omega,rfl,S0⟩
 case round=>
  clear S0;obtain⟨K,f,rfl,rfl,hf,hK1,hKn,hg,S⟩:=hrel;have S:=S.out;obtain⟨k,hk⟩:∃k,K+1=k:=⟨_,rfl⟩;rw[hk];have hK48:K<=2048:=zb2
  obtain⟨sq,hsq⟩:∃s,k*k=s:=⟨_,rfl⟩;have hsqI:(k:Int)*(k:Int)=(sq:Int):=zdb
  have hsqb:sq<=4200000:=zdo
  have hsqp:1<=sq:=by have:=Nat.mul_le_mul (show 1<=k by omega) (show 1<=k by omega);omega
  have HSQ:=hid (show IntKind.i64.wrap ((k:Int)*(k:Int))=(sq:Int)by rw[hsqI];simp only[IntKind.wrap_i64];omega);by_cases hle:sq<=n
  ·obtain⟨qq,hqq⟩:∃q,n/sq=q:=⟨_,rfl⟩;obtain⟨rr,hrr⟩:∃q,n%sq=q:=⟨_,rfl⟩;obtain⟨g4,hg4⟩:∃q,qq%4=q:=⟨_,rfl⟩;have hqn:qq<=n:=by rw[<-hqq];exact Nat.div_le_self _ _
   have hrn:rr<sq:=by rw[<-hrr];exact zR _ hsqp
   have HLE:=hid (show(sq:Int)<=(n:Int)by omega);have hz:¬(sq:Int)=0:=zb
   have hb:((sq:Int)==0)=false:=jk
   have htd:((n:Int)).tdiv (sq:Int)=(qq:Int):=by rw[Int.tdiv_eq_ediv_of_nonneg (by omega),<-hqq];rfl
   have htm:((n:Int)).tmod (sq:Int)=(rr:Int):=by rw[zG (by omega),<-hrr];rfl
   have HQ:=hid (show((n:Int)).tdiv (sq:Int)=(qq:Int)/\IntKind.i64.wrap (qq:Int)=(qq:Int)/\¬sq=0 from⟨htd,by simp only[IntKind.wrap_i64];omega,by omega⟩);have HR:=hid (show((n:Int)).tmod (sq:Int)=(rr:Int)/\IntKind.i64.wrap (rr:Int)=(rr:Int)/\¬sq=0 from⟨htm,by simp only[IntKind.wrap_i64];omega,by omega⟩);have HG:=hid (show(qq:Int)%4=(g4:Int)/\((qq:Int)).tmod 4=(g4:Int)by rw[zG (by omega)];omega);have HADD:=hid (show IntKind.i64.wrap ((k:Int)+1)=(k:Int)+1 by simp only[IntKind.wrap_i64];omega);have HHN:=hid (show K+1=k/\1<=K/\K+gk=2050/\K<=2048 from⟨hk,hK1,hg,hK48⟩);have HKK2:=hid (show k*k<=n by rw[hsq];exact hle)
   have hcd:cdB n k=if 1<=K/\rr=0/\isD qq=true then k else f:=by
    rw[<-hk];unfold cdB;rw[hk,hsq,hrr,hqq,<-hf]
   have hisd:isD qq=(g4==0||g4==3):=by unfold isD;rw[hg4]
   by_cases hr0:rr=0
   ·by_cases h40:g4=0
    ·skip;have HR0:=hid (show((rr:Int)==0)=true by rw[beq_iff_eq];omega);have HG0:=hid (show((g4:Int)==0)=true by rw[beq_iff_eq];omega);have HCD:=hid (show k=cdB n k by rw[hcd,if_pos ⟨hK1,hr0,by rw[hisd];simp[h40]⟩]);clear hf hK1 hKn hg hk hK48 hsq hsqI hsqb hsqp hle hqq hrr hg4 hqn hrn hz hb htd htm hcd hisd HNI hr0 h40;go_upto_region 6 with fail;refine rgt S 5 [some 20,some 21,some 22,some 23,some 24] [iV (k:Int),iV (k:Int),iV (sq:Int),iV (n:Int),IsV (.bool true)] ?_ ?_
     ·refine Rc yr ?_;refine Rc yr ?_;refine Rc ji ?_;refine Rc ja ?_;refine Rc yt ?_;exact rn0
     intro v W6 S hH;simp only[lxE,Nat.reduceAdd];rw[show v 4=.bool true from hH 4 dcx];clear hH;go_upto_region 8 with fail;refine rgt S 6 [some 27,some 28,some 29,some 30,some 31,some 9] [iV (n:Int),iV (k:Int),iV (k:Int),iV (sq:Int),iV (qq:Int),iV (qq:Int)] ?_ ?_
     ·refine Rc ja ?_;refine Rc yr ?_;refine Rc yr ?_;refine Rc yj ?_;refine Rc jf ?_;refine Rc (mv (qA 4 31)) ?_;exact rn0
     intro v W8 S hH;simp only[lxE,Nat.reduceAdd];rw[show v 5=.int .i64 (qq:Int)from hH 5 dcx];clear hH;go_upto_region 9 with fail;refine rgt S 16 [some 32,some 33,some 34,some 35,some 36,some 37,some 38,some 39,some 40,some 41,some 42,some 43,some 44,some 45,some 46,some 47] [iV (n:Int),iV (k:Int),iV (k:Int),iV (sq:Int),iV (rr:Int),IsV (.bool true),IsV (.bool true),iV (qq:Int),iV (g4:Int),IsV (.bool true),IsV (.bool true),IsV (undef),IsV (undef),IsV (undef),IsV (.bool true),IsV (.bool true)] ?_ ?_
     ·refine Rc ja ?_;refine Rc yr ?_;refine Rc yr ?_;refine Rc yk ?_;refine Rc jg ?_;refine Rc zba ?_;refine Rc (mv (qA 5 37)) ?_;refine RcG 6 38 true zdg ?_;refine RcG 6 38 true xn ?_;refine RcG 6 38 true (bn (r:=.bool true) (qC 8 40) qE (hr:=λw=>by have hx9:=HG0.out;go_simp)) ?_;refine RcG 6 38 true (mv (qA 9 41)) ?_;refine RcN 10 42 true ?_;refine RcN 10 42 true ?_;refine RcN 10 42 true ?_;refine RcG 6 38 true (pk (qC 10 42) qE) ?_;refine Rc (pk (qC 6 38) (qA 14 46)) ?_;exact rn0
     intro v W9 S hH;simp only[lxE,Nat.reduceAdd];rw[show v 15=.bool true from hH 15 dcx];clear hH;go_upto_region 10 with fail;refine rgt S 2 [some 48,some 7] [iV (k:Int),iV (k:Int)] ?_ ?_
     ·refine Rc yr ?_;refine Rc (mv (qA 0 48)) ?_;exact rn0
     intro v W10 S hH;simp only[lxE,Nat.reduceAdd];rw[show v 1=.int .i64 (k:Int)from hH 1 dcx];clear hH;have hx9:=HADD.out;have S':=hid S;clear S;go_wp2_with fail
     go_roundg (gk-1)
     case measure=>have:=HHN.out;omega
     case rel=>exact⟨k,k,by rw[zV];rfl,rfl,HCD.out,by have:=HHN.out;omega,HKK2.out,by have:=HHN.out;omega,S'⟩
    ·by_cases h43:g4=3
     ·skip;have HR0:=hid (show((rr:Int)==0)=true by rw[beq_iff_eq];omega);have HG0:=hid (show((g4:Int)==0)=false by rw[zH];omega);have HG3:=hid (show((g4:Int)==3)=true by rw[beq_iff_eq];omega);have HCD:=hid (show k=cdB n k by rw[hcd,if_pos ⟨hK1,hr0,by rw[hisd];simp[h43]⟩]);clear hf hK1 hKn hg hk hK48 hsq hsqI hsqb hsqp hle hqq hrr hg4 hqn hrn hz hb htd htm hcd hisd HNI hr0 h40 h43;go_upto_region 6 with fail;refine rgt S 5 [some 20,some 21,some 22,some 23,some 24] [iV (k:Int),iV (k:Int),iV (sq:Int),iV (n:Int),IsV (.bool true)] ?_ ?_
      ·refine Rc yr ?_;refine Rc yr ?_;refine Rc ji ?_;refine Rc ja ?_;refine Rc yt ?_;exact rn0
      intro v W6 S hH;simp only[lxE,Nat.reduceAdd];rw[show v 4=.bool true from hH 4 dcx];clear hH;go_upto_region 8 with fail;refine rgt S 6 [some 27,some 28,some 29,some 30,some 31,some 9] [iV (n:Int),iV (k:Int),iV (k:Int),iV (sq:Int),iV (qq:Int),iV (qq:Int)] ?_ ?_
      ·refine Rc ja ?_;refine Rc yr ?_;refine Rc yr ?_;refine Rc yj ?_;refine Rc jf ?_;refine Rc (mv (qA 4 31)) ?_;exact rn0
      intro v W8 S hH;simp only[lxE,Nat.reduceAdd];rw[show v 5=.int .i64 (qq:Int)from hH 5 dcx];clear hH;go_upto_region 9 with fail;refine rgt S 16 [some 32,some 33,some 34,some 35,some 36,some 37,some 38,some 39,some 40,some 41,some 42,some 43,some 44,some 45,some 46,some 47] [iV (n:Int),iV (k:Int),iV (k:Int),iV (sq:Int),iV (rr:Int),IsV (.bool true),IsV (.bool true),iV (qq:Int),iV (g4:Int),IsV (.bool false),IsV (.bool false),iV (qq:Int),iV (g4:Int),IsV (.bool true),IsV (.bool true),IsV (.bool true)] ?_ ?_
      ·refine Rc ja ?_;refine Rc yr ?_;refine Rc yr ?_;refine Rc yk ?_;refine Rc jg ?_;refine Rc zba ?_;refine Rc (mv (qA 5 37)) ?_;refine RcG 6 38 true zdg ?_;refine RcG 6 38 true xn ?_;refine RcG 6 38 true (bn (r:=.bool false) (qC 8 40) qE (hr:=λw=>by have hx9:=HG0.out;go_simp)) ?_;refine RcG 6 38 true (mv (qA 9 41)) ?_;refine RcG 10 42 false zdg ?_;refine RcG 10 42 false zcd ?_;refine RcG 10 42 false (bn (r:=.bool true) (qC 12 44) qE (hr:=λw=>by have hx9:=HG3.out;go_simp)) ?_;refine RcG 6 38 true (pk (qC 10 42) (qA 13 45)) ?_;refine Rc (pk (qC 6 38) (qA 14 46)) ?_;exact rn0
      intro v W9 S hH;simp only[lxE,Nat.reduceAdd];rw[show v 15=.bool true from hH 15 dcx];clear hH;go_upto_region 10 with fail;refine rgt S 2 [some 48,some 7] [iV (k:Int),iV (k:Int)] ?_ ?_
      ·refine Rc yr ?_;refine Rc (mv (qA 0 48)) ?_;exact rn0
      intro v W10 S hH;simp only[lxE,Nat.reduceAdd];rw[show v 1=.int .i64 (k:Int)from hH 1 dcx];clear hH;have hx9:=HADD.out;have S':=hid S;clear S;go_wp2_with fail
      go_roundg (gk-1)
      case measure=>have:=HHN.out;omega
      case rel=>exact⟨k,k,by rw[zV];rfl,rfl,HCD.out,by have:=HHN.out;omega,HKK2.out,by have:=HHN.out;omega,S'⟩
     ·skip;have HR0:=hid (show((rr:Int)==0)=true by rw[beq_iff_eq];omega);have HG0:=hid (show((g4:Int)==0)=false by rw[zH];omega);have HG3:=hid (show((g4:Int)==3)=false by rw[zH];omega);have HCD:=hid (show f=cdB n k by rw[hcd,if_neg (by rintro⟨_,h1,h2⟩;rw[hisd]at h2;simp[h40,h43]at h2)]);clear hf hK1 hKn hg hk hK48 hsq hsqI hsqb hsqp hle hqq hrr hg4 hqn hrn hz hb htd htm hcd hisd HNI hr0 h40 h43;go_upto_region 6 with fail;refine rgt S 5 [some 20,some 21,some 22,some 23,some 24] [iV (k:Int),iV (k:Int),iV (sq:Int),iV (n:Int),IsV (.bool true)] ?_ ?_
      ·refine Rc yr ?_;refine Rc yr ?_;refine Rc ji ?_;refine Rc ja ?_;refine Rc yt ?_;exact rn0
      intro v W6 S hH;simp only[lxE,Nat.reduceAdd];rw[show v 4=.bool true from hH 4 dcx];clear hH;go_upto_region 8 with fail;refine rgt S 6 [some 27,some 28,some 29,some 30,some 31,some 9] [iV (n:Int),iV (k:Int),iV (k:Int),iV (sq:Int),iV (qq:Int),iV (qq:Int)] ?_ ?_
      ·refine Rc ja ?_;refine Rc yr ?_;refine Rc yr ?_;refine Rc yj ?_;refine Rc jf ?_;refine Rc (mv (qA 4 31)) ?_;exact rn0
      intro v W8 S hH;simp only[lxE,Nat.reduceAdd];rw[show v 5=.int .i64 (qq:Int)from hH 5 dcx];clear hH;go_upto_region 9 with fail;refine rgt S 16 [some 32,some 33,some 34,some 35,some 36,some 37,some 38,some 39,some 40,some 41,some 42,some 43,some 44,some 45,some 46,some 47] [iV (n:Int),iV (k:Int),iV (k:Int),iV (sq:Int),iV (rr:Int),IsV (.bool true),IsV (.bool true),iV (qq:Int),iV (g4:Int),IsV (.bool false),IsV (.bool false),iV (qq:Int),iV (g4:Int),IsV (.bool false),IsV (.bool false),IsV (.bool false)] ?_ ?_
      ·refine Rc ja ?_;refine Rc yr ?_;refine Rc yr ?_;refine Rc yk ?_;refine Rc jg ?_;refine Rc zba ?_;refine Rc (mv (qA 5 37)) ?_;refine RcG 6 38 true zdg ?_;refine RcG 6 38 true xn ?_;refine RcG 6 38 true (bn (r:=.bool false) (qC 8 40) qE (hr:=λw=>by have hx9:=HG0.out;go_simp)) ?_;refine RcG 6 38 true (mv (qA 9 41)) ?_;refine RcG 10 42 false zdg ?_;refine RcG 10 42 false zcd ?_;refine RcG 10 42 false (bn (r:=.bool false) (qC 12 44) qE (hr:=λw=>by have hx9:=HG3.out;go_simp)) ?_;refine RcG 6 38 true (pk (qC 10 42) (qA 13 45)) ?_;refine Rc (pk (qC 6 38) (qA 14 46)) ?_;exact rn0
      intro v W9 S hH;simp only[lxE,Nat.reduceAdd];rw[show v 15=.bool false from hH 15 dcx];clear hH;have hx9:=HADD.out;have S':=hid S;clear S;go_wp2_with fail
      go_roundg (gk-1)
      case measure=>have:=HHN.out;omega
      case rel=>exact⟨k,f,by rw[zV];rfl,rfl,HCD.out,by have:=HHN.out;omega,HKK2.out,by have:=HHN.out;omega,S'⟩
   ·skip;have HR0:=hid (show((rr:Int)==0)=false by rw[zH];omega);have HCD:=hid (show f=cdB n k by rw[hcd,if_neg (by rintro⟨_,h1,h2⟩;exact hr0 h1)]);clear hf hK1 hKn hg hk hK48 hsq hsqI hsqb hsqp hle hqq hrr hg4 hqn hrn hz hb htd htm hcd hisd HNI hr0;go_upto_region 6 with fail;refine rgt S 5 [some 20,some 21,some 22,some 23,some 24] [iV (k:Int),iV (k:Int),iV (sq:Int),iV (n:Int),IsV (.bool true)] ?_ ?_
    ·refine Rc yr ?_;refine Rc yr ?_;refine Rc ji ?_;refine Rc ja ?_;refine Rc yt ?_;exact rn0
    intro v W6 S hH;simp only[lxE,Nat.reduceAdd];rw[show v 4=.bool true from hH 4 dcx];clear hH;go_upto_region 8 with fail;refine rgt S 6 [some 27,some 28,some 29,some 30,some 31,some 9] [iV (n:Int),iV (k:Int),iV (k:Int),iV (sq:Int),iV (qq:Int),iV (qq:Int)] ?_ ?_
    ·refine Rc ja ?_;refine Rc yr ?_;refine Rc yr ?_;refine Rc yj ?_;refine Rc jf ?_;refine Rc (mv (qA 4 31)) ?_;exact rn0
    intro v W8 S hH;simp only[lxE,Nat.reduceAdd];rw[show v 5=.int .i64 (qq:Int)from hH 5 dcx];clear hH;go_upto_region 9 with fail;refine rgt S 16 [some 32,some 33,some 34,some 35,some 36,some 37,some 38,some 39,some 40,some 41,some 42,some 43,some 44,some 45,some 46,some 47] [iV (n:Int),iV (k:Int),iV (k:Int),iV (sq:Int),iV (rr:Int),IsV (.bool false),IsV (.bool false),IsV (undef),IsV (undef),IsV (undef),IsV (undef),IsV (undef),IsV (undef),IsV (undef),IsV (undef),IsV (.bool false)] ?_ ?_
    ·refine Rc ja ?_;refine Rc yr ?_;refine Rc yr ?_;refine Rc yk ?_;refine Rc jg ?_;refine Rc (bn (r:=.bool false) (qC 4 36) qE (hr:=λw=>by have hx9:=HR0.out;go_simp)) ?_;refine Rc (mv (qA 5 37)) ?_;refine RcN 6 38 false ?_;refine RcN 6 38 false ?_;refine RcN 6 38 false ?_;refine RcN 6 38 false ?_;refine RcU 10 42 false ?_;refine RcU 10 42 false ?_;refine RcU 10 42 false ?_;refine RcN 6 38 false ?_;refine Rc (pk (qC 6 38) qE) ?_;exact rn0
    intro v W9 S hH;simp only[lxE,Nat.reduceAdd];rw[show v 15=.bool false from hH 15 dcx];clear hH;have hx9:=HADD.out;have S':=hid S;clear S;go_wp2_with fail
    go_roundg (gk-1)
    case measure=>have:=HHN.out;omega
    case rel=>exact⟨k,f,by rw[zV];rfl,rfl,HCD.out,by have:=HHN.out;omega,HKK2.out,by have:=HHN.out;omega,S'⟩
  ·skip;obtain rfl:K=L:=sqrt_uniq hKn (by rw[hk,hsq];omega) HL.out.1 HL.out.2;have HGT:=hid (show(n:Int)<(sq:Int)/\n<sq by omega);have hfb:=cdB_pos n K;rw[<-hf]at hfb;have HFE:=hid hf;obtain⟨ff,hff⟩:∃s,f*f=s:=⟨_,rfl⟩;have hffb:ff<=4200000/\1<=ff:=by have h1:=Nat.mul_le_mul (show f<=2049 by omega) (show f<=2049 by omega);have h2:=Nat.mul_le_mul hfb.1 hfb.1;omega
   have HFF:=hid (show IntKind.i64.wrap ((f:Int)*(f:Int))=(ff:Int)by rw[<-Int.natCast_mul,hff];simp only[IntKind.wrap_i64];omega);obtain⟨dq,hdq⟩:∃q,(-(n:Int)).tdiv (ff:Int)=q:=⟨_,rfl⟩
   have hdqb: -(n:Int)<=dq/\dq<=0:=by
    rw[<-hdq,Int.neg_tdiv,Int.tdiv_eq_ediv_of_nonneg (by omega)];have h2:=Nat.div_le_self n ff;have h1:(n:Int)/(ff:Int)=(((n/ff:Nat):Nat):Int):=rfl;rw[h1];generalize n/ff=e at h2 ⊢;omega
   have HNG:=hid (show IntKind.i64.wrap (-(n:Int))= -(n:Int)by simp only[IntKind.wrap_i64];omega);have HDQ:=hid (show(-(n:Int)).tdiv (ff:Int)=dq/\IntKind.i64.wrap dq=dq/\¬ff=0 from⟨hdq,by simp only[IntKind.wrap_i64];omega,by omega⟩);have HDB:=hid (show(-9223372036854775808<=dq/\dq<=9223372036854775807)/\ -9223372036854775808<=(f:Int)/\(f:Int)<=9223372036854775807 by omega);have HDE:=hid (show dq=cdD n K by unfold cdD;rw[<-hf,hff,hdq]);clear hf hK1 hKn hg hk hK48 hsq hsqI hsqb hsqp hle hfb hff hffb hdq hdqb HNI;go_upto_region 6 with fail;refine rgt S 5 [some 20,some 21,some 22,some 23,some 24] [iV (k:Int),iV (k:Int),iV (sq:Int),iV (n:Int),IsV (.bool false)] ?_ ?_
   ·refine Rc yr ?_;refine Rc yr ?_;refine Rc ji ?_;refine Rc ja ?_;refine Rc (bn (r:=.bool false) (qC 2 22) (qC 3 23) (hr:=λw=>by have hx9:=HGT.out.1;have hx8:=HGT.out.2;go_simp)) ?_;exact rn0
   intro v W6 S hH;simp only[lxE,Nat.reduceAdd];rw[show v 4=.bool false from hH 4 dcx];clear hH;go_upto_region 11 with fail;refine rgs 9 [some 49,some 50,some 51,some 52,some 53,some 54,some 55,some 56,some 57] [iV (n:Int),iV (-(n:Int)),iV (f:Int),iV (f:Int),iV (ff:Int),iV dq,IsI 2 dq,iV (f:Int),IsI 2 ((f:Int))] [] ?_ ?_
   ·refine Rc ja ?_;refine Rc (un (r:=.int .i64 (-(n:Int))) (qC 0 49) (hr:=λw=>by have hx9:=HNG.out;go_simp)) ?_;refine Rc xa ?_;refine Rc xa ?_;refine Rc (bn (r:=.int .i64 (ff:Int)) (qC 2 51) (qC 3 52) (hr:=λw=>by have hx9:=HFF.out;go_simp)) ?_;refine Rc (bn (r:=.int .i64 dq) (qC 1 50) (qC 4 53) (hr:=λw=>by have hx9:=HDQ.out.1;have hx8:=HDQ.out.2.1;have hx7:=HDQ.out.2.2;go_simp)) ?_;refine Rc (cl1 (en Tryz.func75) (qA (fP:=iV dq) 5 54) (λx0 w' hE d0=>by{obtain rfl:x0=.int .i64 dq:=d0;exact number_f _ dq HDB.out.1.1 HDB.out.1.2})) ?_;refine Rc xa ?_;refine Rc (cl1 (en Tryz.func75) (qA (fP:=iV (f:Int)) 7 56) (λx0 w' hE d0=>by{obtain rfl:x0=.int .i64 (f:Int):=d0;exact number_f _ (f:Int) HDB.out.2.1 HDB.out.2.2})) ?_;exact rn0
   intro v W11 e1 hH _;replace S:=S.mono e1;have h55:=hH 6 dcx;have h57:=hH 8 dcx;simp only[lxE,Nat.reduceAdd];clear hH e1
   try simp only[dxE]
   (with_reducible refine stL ?_ zfe);intro KK hKK;refine stI S 1 (w.heap.size+1) 0 h55 qJ (λW11a S2 G2=>hKK _ _ ?_) rfl
   replace h57:=(IsI.gstb _ _) _ _ _ G2 h57;replace S:=S2;clear S2 G2 hKK KK h55;simp only[u0x,u1x]at S
   try simp only[dxE]
   (with_reducible refine stL ?_ zfe);intro KK hKK;refine stI S 0 (w.heap.size+1+1) 0 h57 qJ (λW11b S2 G2=>hKK _ _ ?_) rfl
   replace S:=S2;clear S2 G2 hKK KK h57;simp only[u0x]at S;refine zT λK hK=>?_;go_simp;refine hK _ _ ?_;clear hK K
   refine zF ?_;go_wp2_with fail;obtain⟨s90x,a90x,n90x,c90x,b90x,h90x⟩:=S.at 1 (w.heap.size+1) 0 (IsI 2 dq) rfl;have L90xa:World.cell? W11b ⟨w.heap.size+1,0,none⟩=some (.bool s90x):=b90x.c0;have L90xb:World.cell? W11b ⟨w.heap.size+1,1,none⟩=some (.slice a90x n90x c90x):=b90x.c1;obtain⟨s91x,a91x,n91x,c91x,b91x,h91x⟩:=S.at 0 (w.heap.size+1+1) 0 (IsI 2 ((f:Int))) rfl;have L91xa:World.cell? W11b ⟨w.heap.size+1+1,0,none⟩=some (.bool s91x):=b91x.c0;have L91xb:World.cell? W11b ⟨w.heap.size+1+1,1,none⟩=some (.slice a91x n91x c91x):=b91x.c1;exact zD (v:=.tuple #[.agg #[.bool s90x,.slice a90x n90x c90x],.agg #[.bool s91x,.slice a91x n91x c91x],.int .i64 0]) (by simp[results,Tryz.results29,go_sem,L90xa,L90xb,L91xa,L91xb]) rfl (⟨_,rfl,S.ext,⟨_,_,_,rfl,HDE.out▸h90x,HFE.out▸h91x,rfl⟩⟩)
end Go.Proofs.YtknffgdbdadpcaaGreatDoor
