/-
 Package genus: gcd, abs, primitive, small. (Printed by wip/gen/den29.py.)
 Package genus: the closures of its characters. (Printed by wip/gen/den30.py.)
-/
import Derived.Test.YtknffgdbdadpcaaGreatDoorDen28
import Derived.Test.YtknffgdbdadpcaaGreatDoorRfd
import Derived.Test.YtknffgdbdadpcaaGreatDoorDir
import Derived.Test.YtknffgdbdadpcaaGreatDoorDen12
import Derived.Test.YtknffgdbdadpcaaGreatDoorDen23
namespace Go.Proofs.YtknffgdbdadpcaaGreatDoor
open Go Go.RowKit
open Go.Proofs.Tryz
set_option maxRecDepth 100000
set_option maxHeartbeats 4000000
def ggF:Nat→Int→Int→Int
 | 0,a,_=>a
 | f+1,a,b=>if b=0 then a else ggF f b (a.tmod b)
def gg (a b:Int):Int:=ggF b.natAbs a b
theorem ggF_fuel:∀ (f g:Nat) (a b:Int),b.natAbs≤f→b.natAbs≤g→ggF f a b=ggF g a b:=by
 intro f
 induction f with
 | zero=>
  intro g a b h1 _;obtain rfl:b=0:=by omega
  cases g <;> simp [ggF]
 | succ f ih=>
  intro g a b h1 h2;by_cases h:b=0
  ·subst h;cases g <;> simp [ggF]
  ·obtain ⟨g,rfl⟩:∃ g',g=g'+1:=⟨g-1,by omega⟩;have hz:(a.tmod b).natAbs<b.natAbs:=by rw [Int.natAbs_tmod];exact Nat.mod_lt _ (by omega)
   simp only [ggF];rw [if_neg h,if_neg h];exact ih g _ _ (by omega) (by omega)
theorem gg_step {a b:Int} (h:b≠0):gg b (a.tmod b)=gg a b:=by
 have hz:(a.tmod b).natAbs<b.natAbs:=by rw [Int.natAbs_tmod];exact Nat.mod_lt _ (by omega)
 unfold gg;obtain ⟨f,hf⟩:∃ f,b.natAbs=f+1:=⟨b.natAbs-1,by omega⟩;rw [hf]
 conv=>rhs;unfold ggF
 rw [if_neg h];exact ggF_fuel _ _ _ _ (Nat.le_refl _) (by omega)
theorem gg_zero (a:Int):gg a 0=a:=rfl
theorem gg_abs:∀ (k:Nat) (a b:Int),b.natAbs≤k→(gg a b).natAbs=Int.gcd a b:=by
 intro k
 induction k with
 | zero=>
  intro a b h;obtain rfl:b=0:=by omega
  rw [gg_zero,Int.gcd_zero_right]
 | succ k ih=>
  intro a b h;by_cases h0:b=0
  ·subst h0;rw [gg_zero,Int.gcd_zero_right]
  ·have hz:(a.tmod b).natAbs<b.natAbs:=by rw [Int.natAbs_tmod];exact Nat.mod_lt _ (by omega)
   rw [← gg_step h0,ih _ _ (by omega),cgcd_step]
theorem ggcd_f (w:World) (a b:Int) (ha: -1000000≤a∧a≤1000000) (hb: -1000000≤b∧b≤1000000):Calls prog 81 #[.int .i64 a,.int .i64 b] w (Ret w (iV (gg a b))):=by
 obtain ⟨g,hg⟩:∃ g,gg a b=g:=⟨_,rfl⟩;rw [hg];obtain ⟨W,hW,S⟩:∃ W,W=w∧Sto w W []:=⟨_,rfl,(Sto.start w)⟩;go_enter func81,ntmps81;go_wp2_with fail;rw [hW] at S;clear hW;have S0:=hid S;clear S
 go_loopg [0,1] b.natAbs (fun gk v0 v1 wr=> ∃ x y:Int,v0= .int .i64 x∧v1= .int .i64 y∧gg x y=g∧(-1000000≤x∧x≤1000000)∧y.natAbs=gk∧gk≤1000000∧Hid (Sto w wr []))
 case atStart=>exact ⟨a,b,rfl,rfl,hg,ha,rfl,by omega,S0⟩
 case round=>
  clear S0;obtain ⟨x,y,rfl,rfl,hgg,hx,hy,hk,S⟩:=hrel;have S:=S.out;by_cases h0:y=0
  ·subst h0;have hgx:x=g:=by rw [← hgg,gg_zero]
   clear hgg hx hy hk ha hb hg;subst hgx;go_wp2_with fail;exact bodyPost_ret (v:= .int .i64 x) (by simp [results,results81,go_sem]) rfl ⟨_,rfl,S.ext,rfl⟩
  ·obtain ⟨z,hz⟩:∃ z,x.tmod y=z:=⟨_,rfl⟩;have hz1:z.natAbs<y.natAbs:=by rw [← hz,Int.natAbs_tmod];exact Nat.mod_lt _ (by omega)
   have HZ:=hid (show x.tmod y=z∧IntKind.i64.wrap z=z from ⟨hz,wrapC_small (by omega) (by omega)⟩);have HY:=hid h0;have HG:=hid (show gg y z=g by rw [← hz,gg_step h0];exact hgg);have HB:=hid (show (-1000000≤y∧y≤1000000)∧z.natAbs<gk∧gk≤1000000 by omega);clear hgg hx hy hk hz hz1 h0 ha hb hg;go_upto_region 1 with (fail);refine rgs 2 [some 5,some 6] [iV y,IsV (.bool true)] [] ?_ ?_
   ·refine Rc (mv (Od.lit 1)) ?_;refine Rc (bn (r:= .bool true) (Od.loc 0 5) Od.con (hr:=fun w=>by have hx9:=HY.out;go_simp)) ?_;exact rn0
   intro v W1 e1 hΦ _;replace S:=S.mono e1;have v1:v 1= .bool true:=hΦ 1 dcx;simp only [lxE,Nat.reduceAdd];rw [v1];clear v1 hΦ e1;refine wpList_nil ?_;go_upto_region 2 with (fail);have hx9:=HZ.out.1;have hx8:=HZ.out.2;have hx7:=HY.out;have S':=hid S;clear S
   go_region
   have S':=hid (S'.out.mono (Ext.refl _).drew);go_wp2_with fail
   go_roundg z.natAbs
   case measure=>have:=HB.out;omega
   case rel=>exact ⟨y,z,rfl,rfl,HG.out,HB.out.1,rfl,by have:=HB.out;omega,S'⟩
theorem gabs_f (w:World) (z:Int) (hz: -1000000≤z∧z≤1000000):Calls prog 82 #[.int .i64 z] w (Ret w (iV ((z.natAbs:Nat):Int))):=by
 have hwx:=wrapC_small (z:= -z) (by omega) (by omega);have hm:((z.natAbs:Nat):Int)=max z (-z):=by omega
 rw [hm];clear hz hm;go_enter func82,ntmps82;go_wp2_with fail;exact bodyPost_ret (v:= .int .i64 (max z (-z))) (by simp [results,results82,go_sem]) rfl ⟨_,rfl,Ext.refl _,rfl⟩
theorem primitive_f {a b c:Int} {x:Value} {w:World} (hx:IsF (IsI 2 a) (IsI 2 b) (IsI 2 c) x w) {T:Nat} (hd:b*b+(-4)*a*c= -(T:Int)) (hT:1≤T∧T≤4194304∧(T%4=0∨T%4=3)) (ha:1≤a) (hp:fmPrim (a,b,c)=true):Calls prog 79 #[x] w (Ret w (IsT2 (iV (-(T:Int))) (iV 0))):=by
 have HD:=hid hd;have HT:=hid hT;have HA:=hid ha;have HPR:=hid hp;have HDN:=hid (show -(T:Int)<0 by omega);clear hd hT ha hp;obtain ⟨s1x,a1x,n1x,c1x,s1y,a1y,n1y,c1y,s1z,a1z,n1z,c1z,rfl,h1x,h1y,h1z⟩:=hx;obtain ⟨W,hW,S⟩:∃ W,W=w.alloc (.cells #[.bool s1x,.slice a1x n1x c1x,.bool s1y,.slice a1y n1y c1y,.bool s1z,.slice a1z n1z c1z] 62)∧Sto w W [((w.heap.size,2),IsI 2 c),((w.heap.size,1),IsI 2 b),((w.heap.size,0),IsI 2 a)]:=⟨_,rfl,((Sto.start w).new3 (w.heap.size) (by simp) s1x s1y s1z a1x a1y a1z n1x c1x n1y c1y n1z c1z 62 (IsI 2 a) (IsI 2 b) (IsI 2 c) (IsI.gstb _ _) (h1x) (IsI.gstb _ _) (h1y) (IsI.gstb _ _) (h1z))⟩;clear h1x h1y h1z;go_enter func79,ntmps79;go_upto_region 1 with (fail);rw [← hW];clear hW;refine rgs 3 [some 7,some 8,some 4] [IsF (IsI 2 a) (IsI 2 b) (IsI 2 c),iV 0,iV 0] [] ?_ ?_ (hst:=by repeat' (first | exact trivial | apply IsIf.stb | exact IsV.stb _ | exact IsI.stb _ _ | apply IsJ.stb | apply IsQ.stb | apply IsF.stb | apply IsT2.stb | apply IsT3.stb | exact IsBo.stb _ _ | apply And.intro))
 ·refine Rc (ldF S 2 1 0 (w.heap.size) 0 (Od.lit 1) ld_Frm rfl rfl rfl) ?_;refine Rc (cl1 (en func127) (Od.lc (Φ:=IsF (IsI 2 a) (IsI 2 b) (IsI 2 c)) 0 7) (fun x0 w' hE d0=>qCheck_f d0 HD.out HDN.out HA.out)) ?_;refine Rc (mv (Od.lc 1 8)) ?_;exact rn0
 intro v W1 e1 hΦ _;replace S:=S.mono e1;have v2:v 2= .int .i64 0:=hΦ 2 dcx;simp only [lxE,Nat.reduceAdd];rw [v2];clear v2 hΦ e1;refine wpList_nil ?_;go_upto_region 2 with (fail);refine rgs 2 [some 9,some 10] [iV 0,IsV (.bool false)] [] ?_ ?_
 ·refine Rc (mv (Od.lit 4)) ?_;refine Rc (bn (r:= .bool false) (Od.loc 0 9) Od.con (hr:=fun w=>by go_simp)) ?_;exact rn0
 intro v W2 e1 hΦ _;replace S:=S.mono e1;have v1:v 1= .bool false:=hΦ 1 dcx;simp only [lxE,Nat.reduceAdd];rw [v1];clear v1 hΦ e1;refine wpList_nil ?_;go_upto_region 4 with (fail);refine rgs 8 [some 13,some 14,some 15,some 12,some 16,some 17,some 5,some 6] [IsF (IsI 2 a) (IsI 2 b) (IsI 2 c),IsI 9 (-(T:Int)),IsT2 (iV (-(T:Int))) (iV 0),IsT2 (iV (-(T:Int))) (iV 0),iV (-(T:Int)),iV 0,iV (-(T:Int)),iV 0] [] ?_ ?_ (hst:=by repeat' (first | exact trivial | apply IsIf.stb | exact IsV.stb _ | exact IsI.stb _ _ | apply IsJ.stb | apply IsQ.stb | apply IsF.stb | apply IsT2.stb | apply IsT3.stb | exact IsBo.stb _ _ | apply And.intro))
 ·refine Rc (ldF S 2 1 0 (w.heap.size) 0 (Od.lit 1) ld_Frm rfl rfl rfl) ?_;refine Rc (cl1 (en func128) (Od.lc (Φ:=IsF (IsI 2 a) (IsI 2 b) (IsI 2 c)) 0 13) (fun x0 w' hE d0=>qDisc_f d0 HD.out)) ?_;refine Rc (cl1 (en func101) (Od.lc (Φ:=IsI 9 (-(T:Int))) 1 14) (fun x0 w' hE d0=>right_f d0 dcx HT.out)) ?_;refine Rc (mv (Od.lc 2 15)) ?_;refine Rc (ex (Od.loc 3 12) t20) ?_;refine Rc (ex (Od.loc 3 12) t21) ?_;refine Rc (mv (Od.lc 4 16)) ?_;refine Rc (mv (Od.lc 5 17)) ?_;exact rn0
 intro v W3 e1 hΦ _;replace S:=S.mono e1;have v6:v 6= .int .i64 (-(T:Int)):=hΦ 6 dcx;have v7:v 7= .int .i64 0:=hΦ 7 dcx;simp only [lxE,Nat.reduceAdd];rw [v6,v7];clear v6 v7 hΦ e1;refine wpList_nil ?_;go_upto_region 5 with (fail);refine rgs 7 [some 18,some 19,some 20,some 21,some 22,some 23,some 24] [iV 0,IsV (.bool true),IsV (.bool true),IsF (IsI 2 a) (IsI 2 b) (IsI 2 c),IsV (.bool true),IsV (.bool false),IsV (.bool false)] [] ?_ ?_ (hst:=by repeat' (first | exact trivial | apply IsIf.stb | exact IsV.stb _ | exact IsI.stb _ _ | apply IsJ.stb | apply IsQ.stb | apply IsF.stb | apply IsT2.stb | apply IsT3.stb | exact IsBo.stb _ _ | apply And.intro))
 ·refine Rc (mv (Od.lit 6)) ?_;refine Rc (bn (r:= .bool true) (Od.loc 0 18) Od.con (hr:=fun w=>by go_simp)) ?_;refine Rc (mv (Od.lc 1 19)) ?_;refine RcG 2 20 true (ldF S 2 1 0 (w.heap.size) 0 (Od.lit 1) ld_Frm rfl rfl rfl) ?_;refine RcG 2 20 true (cl1 (en func68) (Od.lc (Φ:=IsF (IsI 2 a) (IsI 2 b) (IsI 2 c)) 3 21) (fun x0 w' hE d0=>(by have hh:=qPrim_f d0;rw [HPR.out] at hh;exact hh))) ?_;refine RcG 2 20 true (nt (Od.loc 4 22)) ?_;refine Rc (pk (Od.loc 2 20) (Od.lc 5 23)) ?_;exact rn0
 intro v W4 e1 hΦ _;replace S:=S.mono e1;have v6:v 6= .bool false:=hΦ 6 dcx;simp only [lxE,Nat.reduceAdd];rw [v6];clear v6 hΦ e1;refine wpList_nil ?_;go_upto_region 7 with (fail);refine rgs 4 [some 25,some 26,some 2,some 3] [iV (-(T:Int)),iV 0,iV (-(T:Int)),iV 0] [] ?_ ?_
 ·refine Rc (mv (Od.lit 5)) ?_;refine Rc (mv (Od.lit 6)) ?_;refine Rc (mv (Od.lc 0 25)) ?_;refine Rc (mv (Od.lc 1 26)) ?_;exact rn0
 intro v W5 e1 hΦ _;replace S:=S.mono e1;have v2:v 2= .int .i64 (-(T:Int)):=hΦ 2 dcx;have v3:v 3= .int .i64 0:=hΦ 3 dcx;simp only [lxE,Nat.reduceAdd];rw [v2,v3];clear v2 v3 hΦ e1;refine wpList_nil ?_;go_wp2_with fail;exact bodyPost_ret (v:= .tuple #[.int .i64 (-(T:Int)),.int .i64 0]) (by simp [results,results79,go_sem]) rfl (⟨_,rfl,S.ext,⟨_,_,rfl,rfl,rfl⟩⟩)
theorem small_f {a b c:Int} {x:Value} {w:World} (hx:IsF (IsI 2 a) (IsI 2 b) (IsI 2 c) x w) {T:Nat} (hok:FmOk (T:Int) (a,b,c)) (hT:1≤T) (hb:(-100≤a∧a≤100)∧(-100≤b∧b≤100)∧(-10000≤c∧c≤10000)):Calls prog 80 #[x] w (Ret w (IsT3 (iV a) (iV b) (iV c))):=by
 have HOK:=hid hok;have HDN:=hid (show -(T:Int)<0 by omega);have HB:=hid (show (-9223372036854775808≤a∧a≤9223372036854775807)∧(-9223372036854775808≤b∧b≤9223372036854775807)∧(-9223372036854775808≤c∧c≤9223372036854775807) by omega);clear hok hT hb;obtain ⟨s1x,a1x,n1x,c1x,s1y,a1y,n1y,c1y,s1z,a1z,n1z,c1z,rfl,h1x,h1y,h1z⟩:=hx;obtain ⟨W,hW,S⟩:∃ W,W=w.alloc (.cells #[.bool s1x,.slice a1x n1x c1x,.bool s1y,.slice a1y n1y c1y,.bool s1z,.slice a1z n1z c1z] 62)∧Sto w W [((w.heap.size,2),IsI 2 c),((w.heap.size,1),IsI 2 b),((w.heap.size,0),IsI 2 a)]:=⟨_,rfl,((Sto.start w).new3 (w.heap.size) (by simp) s1x s1y s1z a1x a1y a1z n1x c1x n1y c1y n1z c1z 62 (IsI 2 a) (IsI 2 b) (IsI 2 c) (IsI.gstb _ _) (h1x) (IsI.gstb _ _) (h1y) (IsI.gstb _ _) (h1z))⟩;clear h1x h1y h1z;go_enter func80,ntmps80;go_upto_region 1 with (fail);rw [← hW];clear hW;have hl:=hid S.lt;have hw:=S.ext.size;refine rgs 8 [some 9,some 10,some 8,some 11,some 12,some 13,some 5,some 6] [IsF (IsI 2 a) (IsI 2 b) (IsI 2 c),IsT3 (IsF (IsI 2 a) (IsI 2 b) (IsI 2 c)) (IsJ (IsI 2 1) (IsI 2 0) (IsI 2 0) (IsI 2 1)) (iV 0),IsT3 (IsF (IsI 2 a) (IsI 2 b) (IsI 2 c)) (IsJ (IsI 2 1) (IsI 2 0) (IsI 2 0) (IsI 2 1)) (iV 0),IsF (IsI 2 a) (IsI 2 b) (IsI 2 c),IsJ (IsI 2 1) (IsI 2 0) (IsI 2 0) (IsI 2 1),iV 0,IsBo W 3,IsBo W 4] [6,7] ?_ ?_ (hst:=by repeat' (first | exact trivial | apply IsIf.stb | exact IsV.stb _ | exact IsI.stb _ _ | apply IsJ.stb | apply IsQ.stb | apply IsF.stb | apply IsT2.stb | apply IsT3.stb | exact IsBo.stb _ _ | apply And.intro))
 ·refine Rc (ldF S 2 1 0 (w.heap.size) 0 (Od.lit 1) ld_Frm rfl rfl rfl) ?_;refine Rc (cl1 (en func129) (Od.lc (Φ:=IsF (IsI 2 a) (IsI 2 b) (IsI 2 c)) 0 9) (fun x0 w' hE d0=>qReduce_f d0 HOK.out.disc HDN.out HOK.out.a1 HOK.out.b1 HOK.out.b2 HOK.out.ac HOK.out.edge)) ?_;refine Rc (mv (Od.lc 1 10)) ?_;refine Rc (ex (Od.loc 2 8) t30) ?_;refine Rc (ex (Od.loc 2 8) t31) ?_;refine Rc (ex (Od.loc 2 8) t32) ?_;refine Rc (al al_Frm) ?_;refine Rc (al al_Mat) ?_;exact rn0
 intro v W1 e1 hΦ hne;replace S:=S.mono e1;have h11:=hΦ 3 dcx;have h12:=hΦ 4 dcx;have v5:v 5= .int .i64 0:=hΦ 5 dcx;obtain ⟨g5,v6,q2,b1,_⟩:=(hΦ 6 dcx:IsBo W 3 (v 6) W1);replace S:=S.addN 3 (ApartO.old hl.out q2) (Nat.le_trans hw q2) b1;obtain ⟨g6,v7,q4,b3,_⟩:=(hΦ 7 dcx:IsBo W 4 (v 7) W1);replace S:=S.addN 4 (ApartO.cons (fun h=>hne 6 7 dcx dcx dcx dcx dcx (by rw [v6,v7,h])) (ApartO.cons (fun h=>hne 6 7 dcx dcx dcx dcx dcx (by rw [v6,v7,h])) (ApartO.cons (fun h=>hne 6 7 dcx dcx dcx dcx dcx (by rw [v6,v7,h])) (ApartO.old hl.out q4)))) (Nat.le_trans hw q4) b3;simp only [newF,List.cons_append,List.nil_append] at S;simp only [lxE,Nat.reduceAdd];rw [v5,v6,v7];clear b1 b3 hl hw hne v5 v6 v7 hΦ e1
 try simp only [dxE]
 (with_reducible refine stL ?_ (by rfl));intro KK hKK;refine stF S 6 5 4 (g5) 0 h11 (IsI.gstb _ _) (IsI.gstb _ _) (IsI.gstb _ _) st_Frm (fun W2 S2 G2=>hKK _ _ ?_) rfl rfl rfl
 replace h12:=(IsJ.gstb (IsI.gstb _ _) (IsI.gstb _ _) (IsI.gstb _ _) (IsI.gstb _ _)) _ _ _ G2 h12;replace S:=S2;clear S2 G2 hKK KK h11;simp only [u0x,u1x] at S
 try simp only [dxE]
 (with_reducible refine stL ?_ (by rfl));intro KK hKK;refine stJ S 3 2 1 0 (g6) 0 h12 (IsI.gstb _ _) (IsI.gstb _ _) (IsI.gstb _ _) (IsI.gstb _ _) st_Mat (fun W3 S2 G2=>hKK _ _ ?_) rfl rfl rfl rfl
 replace S:=S2;clear S2 G2 hKK KK h12;simp only [u0x,u1x] at S;refine wpList_step fun K hK=> ?_;go_simp;refine hK _ _ ?_;clear hK K
 refine wpList_nil ?_;go_upto_region 2 with (fail);refine rgs 7 [some 15,some 16,some 17,some 14,some 18,some 19,some 2] [IsV (.pointer (some ⟨g5,0,none⟩)),IsI 2 a,IsT2 (iV a) (IsV (.bool true)),IsT2 (iV a) (IsV (.bool true)),iV a,IsV (.bool true),iV a] [] ?_ ?_
 ·refine Rc (fa (fa_Frm0 (g5) 0) (Od.lit 5)) ?_;refine Rc (ldI S 6 (g5) 0 (Od.lc 0 15) ld_Int) ?_;refine Rc (cl1 (en func42) (Od.lc (Φ:=IsI 2 a) 1 16) (fun x0 w' hE d0=>Low_t d0 HB.out.1.1 HB.out.1.2)) ?_;refine Rc (mv (Od.lc 2 17)) ?_;refine Rc (ex (Od.loc 3 14) t20) ?_;refine Rc (ex (Od.loc 3 14) t21) ?_;refine Rc (mv (Od.lc 4 18)) ?_;exact rn0
 intro v W4 e1 hΦ _;replace S:=S.mono e1;have v6:v 6= .int .i64 a:=hΦ 6 dcx;simp only [lxE,Nat.reduceAdd];rw [v6];clear v6 hΦ e1;refine wpList_nil ?_;go_upto_region 3 with (fail);refine rgs 7 [some 21,some 22,some 23,some 20,some 24,some 25,some 3] [IsV (.pointer (some ⟨g5,2,none⟩)),IsI 2 b,IsT2 (iV b) (IsV (.bool true)),IsT2 (iV b) (IsV (.bool true)),iV b,IsV (.bool true),iV b] [] ?_ ?_
 ·refine Rc (fa (fa_Frm1 (g5) 0) (Od.lit 5)) ?_;refine Rc (ldI S 5 (g5) 1 (Od.lc 0 21) ld_Int) ?_;refine Rc (cl1 (en func42) (Od.lc (Φ:=IsI 2 b) 1 22) (fun x0 w' hE d0=>Low_t d0 HB.out.2.1.1 HB.out.2.1.2)) ?_;refine Rc (mv (Od.lc 2 23)) ?_;refine Rc (ex (Od.loc 3 20) t20) ?_;refine Rc (ex (Od.loc 3 20) t21) ?_;refine Rc (mv (Od.lc 4 24)) ?_;exact rn0
 intro v W5 e1 hΦ _;replace S:=S.mono e1;have v6:v 6= .int .i64 b:=hΦ 6 dcx;simp only [lxE,Nat.reduceAdd];rw [v6];clear v6 hΦ e1;refine wpList_nil ?_;go_upto_region 4 with (fail);refine rgs 7 [some 27,some 28,some 29,some 26,some 30,some 31,some 4] [IsV (.pointer (some ⟨g5,4,none⟩)),IsI 2 c,IsT2 (iV c) (IsV (.bool true)),IsT2 (iV c) (IsV (.bool true)),iV c,IsV (.bool true),iV c] [] ?_ ?_
 ·refine Rc (fa (fa_Frm2 (g5) 0) (Od.lit 5)) ?_;refine Rc (ldI S 4 (g5) 2 (Od.lc 0 27) ld_Int) ?_;refine Rc (cl1 (en func42) (Od.lc (Φ:=IsI 2 c) 1 28) (fun x0 w' hE d0=>Low_t d0 HB.out.2.2.1 HB.out.2.2.2)) ?_;refine Rc (mv (Od.lc 2 29)) ?_;refine Rc (ex (Od.loc 3 26) t20) ?_;refine Rc (ex (Od.loc 3 26) t21) ?_;refine Rc (mv (Od.lc 4 30)) ?_;exact rn0
 intro v W6 e1 hΦ _;replace S:=S.mono e1;have v6:v 6= .int .i64 c:=hΦ 6 dcx;simp only [lxE,Nat.reduceAdd];rw [v6];clear v6 hΦ e1;refine wpList_nil ?_;go_upto_region 5 with (fail);refine rgs 3 [some 32,some 33,some 34] [iV a,iV b,iV c] [] ?_ ?_
 ·refine Rc (mv (Od.lit 2)) ?_;refine Rc (mv (Od.lit 3)) ?_;refine Rc (mv (Od.lit 4)) ?_;exact rn0
 intro v W7 e1 hΦ _;replace S:=S.mono e1;have v0:v 0= .int .i64 a:=hΦ 0 dcx;have v1:v 1= .int .i64 b:=hΦ 1 dcx;have v2:v 2= .int .i64 c:=hΦ 2 dcx;simp only [lxE,Nat.reduceAdd];rw [v0,v1,v2];clear v0 v1 v2 hΦ e1;refine wpList_step fun K hK=> ?_;go_simp;refine hK _ _ ?_;clear hK K
 refine wpList_step fun K hK=> ?_;go_simp;refine hK _ _ ?_;clear hK K
 refine wpList_step fun K hK=> ?_;go_simp;refine hK _ _ ?_;clear hK K
 refine wpList_nil ?_;go_wp2_with fail;exact bodyPost_ret (v:= .tuple #[.int .i64 a,.int .i64 b,.int .i64 c]) (by simp [results,results80,go_sem]) rfl (⟨_,rfl,S.ext,⟨_,_,_,rfl,rfl,rfl,rfl⟩⟩)
def cvV (c n:Int):Int:=if c= -4 then (if n%8=1∨n%8=5 then 1 else -1) else if c=8 then (if n%8=1∨n%8=7 then 1 else -1) else if c= -8 then (if n%8=1∨n%8=3 then 1 else -1) else kr n c.toNat
theorem gIndex_f (w:World) (h:Nat) (r v:Int) (hh:w.heap[h]? =some (.cells #[.int .i64 1,.int .i64 r] 2)):Calls prog 195 #[.slice (some ⟨h,0,none⟩) 2 2,.int .i64 v] w (Ret w (iV (if v=1 then 0 else if v=r then 1 else -1))):=by
 have L0:w.cell? ⟨h,0,none⟩=some (.int .i64 1):=by simp [World.cell?,hh]
 have L1:w.cell? ⟨h,1,none⟩=some (.int .i64 r):=by simp [World.cell?,hh]
 clear hh;obtain ⟨q,hq⟩:∃ q:Int,(if v=1 then (0:Int) else if v=r then 1 else -1)=q:=⟨_,rfl⟩;rw [hq];go_enter func195,ntmps195;go_wp2_with fail;by_cases h1:v=1
 ·rw [if_pos h1] at hq;subst hq;subst h1
  go_loopg [8] 2 (fun gk v8 wr=>v8= .int .i64 0∧w=wr∧gk=2)
  case atStart=>exact ⟨rfl,rfl,rfl⟩
  case round=>
   obtain ⟨rfl,rfl,rfl⟩:=hrel;go_wp2_with fail;exact bodyPost_ret (v:= .int .i64 0) (by simp [results,results195,go_sem]) rfl ⟨_,rfl,Ext.refl _,rfl⟩
 ·have e1:(v==1)=false:=by rw [beq_eq_false_iff_ne];exact h1
  rw [if_neg h1] at hq;by_cases h2:v=r
  ·rw [if_pos h2] at hq;subst hq;subst h2;clear h1
   go_loopg [8] 2 (fun gk v8 wr=> ∃ i:Nat,v8= .int .i64 (i:Int)∧w=wr∧i+gk=2∧i≤1)
   case atStart=>exact ⟨0,rfl,rfl,rfl,by decide⟩
   case round=>
    obtain ⟨i,rfl,rfl,hg,hi⟩:=hrel;rcases (show i=0∨i=1 by omega) with rfl | rfl
    ·go_wp2_with fail
     go_roundg (gk-1)
     case measure=>omega
     case rel=>exact ⟨1,rfl,rfl,by omega,by decide⟩
    ·clear e1;go_wp2_with fail;exact bodyPost_ret (v:= .int .i64 1) (by simp [results,results195,go_sem]) rfl ⟨_,rfl,Ext.refl _,rfl⟩
  ·have e2:(v==r)=false:=by rw [beq_eq_false_iff_ne];exact h2
   rw [if_neg h2] at hq;subst hq;clear h1 h2
   go_loopg [8] 2 (fun gk v8 wr=> ∃ i:Nat,v8= .int .i64 (i:Int)∧w=wr∧i+gk=2∧i≤2)
   case atStart=>exact ⟨0,rfl,rfl,rfl,by decide⟩
   case round=>
    obtain ⟨i,rfl,rfl,hg,hi⟩:=hrel;rcases (show i=0∨i=1∨i=2 by omega) with rfl | rfl | rfl
    ·go_wp2_with fail
     go_roundg (gk-1)
     case measure=>omega
     case rel=>exact ⟨1,rfl,rfl,by omega,by decide⟩
    ·go_wp2_with fail
     go_roundg (gk-1)
     case measure=>omega
     case rel=>exact ⟨2,rfl,rfl,by omega,by decide⟩
    ·go_wp2_with fail;exact bodyPost_ret (v:= .int .i64 (-1)) (by simp [results,results195,go_sem]) rfl ⟨_,rfl,Ext.refl _,rfl⟩
theorem gContains_f (w:World) (h:Nat) (r v:Int) (hh:w.heap[h]? =some (.cells #[.int .i64 1,.int .i64 r] 2)):Calls prog 170 #[.slice (some ⟨h,0,none⟩) 2 2,.int .i64 v] w (Ret w (IsV (.bool (decide (v=1∨v=r))))):=by
 have hix:=gIndex_f w h r v hh;obtain ⟨i,hi⟩:∃ i:Int,(if v=1 then (0:Int) else if v=r then 1 else -1)=i:=⟨_,rfl⟩;rw [hi] at hix;obtain ⟨b,hb⟩:∃ b,decide (v=1∨v=r)=b:=⟨_,rfl⟩;rw [hb]
 have hd:decide (0≤i)=b:=by
  rw [← hi,← hb];by_cases h1:v=1
  ·simp [h1]
  ·rw [if_neg h1];by_cases h2:v=r
   ·rw [if_pos h2,decide_eq_true (Or.inr h2)];rfl
   ·rw [if_neg h2,show decide (v=1∨v=r)=false from decide_eq_false (by rintro (h | h) <;> contradiction)];rfl
 clear hi hb hh;go_enter func170,ntmps170;go_wp2_with (go_at_call 195;go_must (refine Calls.mono hix ?_;rintro e w2 ⟨_,rfl,E2,rfl⟩))
 exact bodyPost_ret (v:= .bool b) (by simp [results,results170,go_sem]) rfl ⟨_,rfl,E2,rfl⟩
theorem gsign_f (w:World) (b:Bool):Calls prog 169 #[.bool b] w (Ret w (iV (if b then 1 else -1))):=by
 go_enter func169,ntmps169;cases b with
 | true=>
  go_wp2_with fail;exact bodyPost_ret (v:= .int .i64 1) (by simp [results,results169,go_sem]) rfl ⟨_,rfl,Ext.refl _,rfl⟩
 | false=>
  go_wp2_with fail;exact bodyPost_ret (v:= .int .i64 (-1)) (by simp [results,results169,go_sem]) rfl ⟨_,rfl,Ext.refl _,rfl⟩
theorem special1_f (w:World) (g h:Nat) (r n:Int) (hg:w.heap[g]? =some (.cells #[.slice (some ⟨h,0,none⟩) 2 2] 202)) (hh:w.heap[h]? =some (.cells #[.int .i64 1,.int .i64 r] 2)) (hn:0≤n∧n≤1000000000):Calls prog 168 #[.int .i64 n,.pointer (some ⟨g,0,none⟩)] w (Ret w (iV (if n%8=1∨n%8=r then 1 else -1))):=by
 have L0:w.cell? ⟨g,0,none⟩=some (.slice (some ⟨h,0,none⟩) 2 2):=by simp [World.cell?,hg]
 obtain ⟨m,hm⟩:∃ m,n%8=m:=⟨_,rfl⟩;have hx1:n.tmod 8=m:=by rw [Int.tmod_eq_emod_of_nonneg hn.1];exact hm
 have hx2:IntKind.i64.wrap m=m:=by simp only [IntKind.wrap_i64];omega
 rw [hm];have hcon:=gContains_f w h r m hh;obtain ⟨b,hb⟩:∃ b,decide (m=1∨m=r)=b:=⟨_,rfl⟩;rw [hb] at hcon;have hres:(if m=1∨m=r then (1:Int) else -1)=if b then 1 else -1:=by rw [← hb];simp only [decide_eq_true_eq]
 rw [hres];obtain ⟨q,hq⟩:∃ q:Int,(if b then (1:Int) else -1)=q:=⟨_,rfl⟩;have hsg:=fun w'=>gsign_f w' b
 rw [hq] at hsg ⊢;have HM:=hid hm;clear hb hres hq hm hg hh hn;go_enter func168,ntmps168;go_wp2_with (first | (go_at_call 170;go_must (refine Calls.mono hcon ?_;rintro e w2 ⟨_,rfl,E2,rfl⟩)) | (go_at_call 169;go_must (refine Calls.mono (hsg _) ?_;rintro e w3 ⟨_,rfl,E3,rfl⟩)))
 exact bodyPost_ret (v:= .int .i64 q) (by simp [results,results168,go_sem]) rfl ⟨_,rfl,E2.trans E3,rfl⟩
theorem odd1_f (w:World) (g p:Nat) (n:Int) (hs:Sg w) (hg:w.heap[g]? =some (.cells #[.int .i64 (p:Int)] 2)) (hp:0<p∧p≤4611686018427387904) (hn:0≤n∧n≤1000000000):Calls prog 167 #[.int .i64 n,.pointer (some ⟨g,0,none⟩)] w (Ret w (iV (kr n p))):=by
 have L0:w.cell? ⟨g,0,none⟩=some (.int .i64 (p:Int)):=by simp [World.cell?,hg]
 obtain ⟨k,hk⟩:∃ k,kr n p=k:=⟨_,rfl⟩;rw [hk];have HK:=hid hk;have HP:=hid hp;have HSG:=hid hs;have HNB:=hid (show -9223372036854775808≤n∧n≤9223372036854775807 by omega);have HPB:=hid (show -9223372036854775808≤(p:Int)∧(p:Int)≤9223372036854775807 by omega);clear hk hp hs hg hn;obtain ⟨W,hW,S⟩:∃ W,W=w∧Sto w W []:=⟨_,rfl,(Sto.start w)⟩;go_enter func167,ntmps167;go_upto_region 1 with (fail);rw [← hW];clear hW;refine rg 6 [some 4,some 5,some 6,some 7,some 8,some 3] [iV n,IsI 2 n,iV (p:Int),IsI 2 ((p:Int)),iV k,iV k] [] 0 ?_ ?_
 ·refine Rc (mv (Od.lit 0)) ?_;refine Rc (cl1 (en func41) (Od.lc (Φ:=iV n) 0 4) (fun x0 w' hE d0=>by { obtain rfl:x0= .int .i64 n:=d0;exact Of_f _ n HNB.out.1 HNB.out.2})) ?_;refine Rc (ldG2 (fun w e=>Ext.cell (S.ext.trans e) L0) (Od.lit 1)) ?_;refine Rc (cl1 (en func41) (Od.lc (Φ:=iV (p:Int)) 2 6) (fun x0 w' hE d0=>by { obtain rfl:x0= .int .i64 (p:Int):=d0;exact Of_f _ (p:Int) HPB.out.1 HPB.out.2})) ?_;refine Rc (cl2 (en func62) (Od.lc (Φ:=IsI 2 n) 1 5) (Od.lc (Φ:=IsI 2 ((p:Int))) 3 7) (fun x0 x1 w' hE d0 d1=>(by have hh:=Kron_f d0 d1 dcx dcx (HSG.out.ext (S.ext.trans hE)) HP.out;rw [HK.out] at hh;exact hh))) ?_;refine Rc (mv (Od.lc 4 8)) ?_;exact rn0
 intro v W1 e1 hΦ _;replace S:=S.mono e1;have v5:v 5= .int .i64 k:=hΦ 5 dcx;simp only [lxE,Nat.reduceAdd];rw [v5];clear v5 hΦ e1;refine wpAny_done (by kernel_rfl) ?_ _;go_wp2_with fail;exact bodyPost_ret (v:= .int .i64 k) (by simp [results,results167,go_sem]) rfl (⟨_,rfl,S.ext,rfl⟩)
end Go.Proofs.YtknffgdbdadpcaaGreatDoor
