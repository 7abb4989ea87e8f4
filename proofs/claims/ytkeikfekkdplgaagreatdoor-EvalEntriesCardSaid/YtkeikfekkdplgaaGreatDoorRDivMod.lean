/- Lemmas. -/
import Derived.Test.YtkeikfekkdplgaaGreatDoorReadB
import Derived.Test.YtkeikfekkdplgaaGreatDoorFact
import Derived.Maps.AppendAt
import Derived.RangeFuncBox
import Derived.Test.YtkeikfekkdplgaaGreatDoorBase
import Derived.Test.YtkeikfekkdplgaaGreatDoorDivW
namespace Go.Proofs.YtkeikfekkdplgaaGreatDoor
section
open Go Go.RowKit
theorem zbd{P:Prop}(h:P:=by{ (with_reducible refine RgL.mk zb6 ?_);intro v a w' hE hd hf;have ev0:=hf.lit 3 (.pointer (some ⟨w.heap.size+1,0,none⟩)) za za;clear hd hf;intro K hK;go_simp;exact hK.out _ _ (Ext.refl _) rfl (FreshIf.no rfl)}):P:=h
theorem zbg{P:Prop}(h:P:=by{ (with_reducible refine RgL.mk zb6 ?_);intro v a w' hE hd hf;have d0:(IsI (k1+2) r0) (v 0) w':=hd 0 za;have ev0:=hf.val 0 36 _ rfl za za za;have d1:(IsI k2 z2.natAbs) (v 2) w':=hd 2 za;have ev1:=hf.val 2 38 _ rfl za za za;clear hd hf;intro K hK;go_simp;go_at_call 51;go_split_ands;(with_reducible refine jJ (jJ (RAdd_f d0 d1 (by omega) (by omega)) λ_ _ h=>(h.eqz HD.out.2.1.symm).mono λ_ _ h=>h.tight (k':=k2) HT2.out) ?_);rintro e w2 ⟨x,rfl,e2,hx⟩;exact hK.out _ _ e2 hx (FreshIf.no rfl)}):P:=h
theorem zbh{P:Prop}(h:P:=by{ (with_reducible refine RgL.mk zb6 ?_);intro v a w' hE hd hf;have ev0:=hf.lit 9 (.pointer (some ⟨g9,0,none⟩)) za za;clear hd hf;intro K hK;go_simp;exact hK.out _ _ (Ext.refl _) rfl (FreshIf.no rfl)}):P:=h
theorem zbm{P:Prop}(h:P:=by{ (with_reducible refine RgL.mk zb6 ?_);intro v a w' hE hd hf;have d0:v 0=.pointer (some ⟨g9,0,none⟩):=hd 0 za;have ev0:=hf.val 0 34 _ d0 za za za;clear d0;obtain⟨s8,a8,n8,c8,b8,h8⟩:=(S.mono hE).at 0 (g9) (IsI (k1+2) r0) rfl;have L0:=b8.c0;have L1:=b8.c1;obtain rfl:=h8.neg' (H0.out);clear hd hf;intro K hK;go_simp;exact hK.out _ _ (Ext.refl _) rfl (FreshIf.no rfl)}):P:=h
theorem zbo{P:Prop}(h:P:=by{ (with_reducible refine RgL.mk zb6 ?_);intro v a w' hE hd hf;have ev0:=hf.lit 3 (.pointer (some ⟨w.heap.size+1,0,none⟩)) za za;obtain⟨s8,a8,n8,c8,b8,h8⟩:=(S.mono hE).at 4 (w.heap.size+1) (IsI k2 z2) rfl;have L0:=b8.c0;have L1:=b8.c1;clear hd hf;intro K hK;go_simp;exact hK.out _ _ (Ext.refl _) h8 (FreshIf.no rfl)}):P:=h
theorem zbp{P:Prop}(h:P:=by{ (with_reducible refine RgL.mk zb6 ?_);intro v a w' hE hd hf;have d0:(IsI k2 z2) (v 1) w':=hd 1 za;have ev0:=hf.val 1 37 _ rfl za za za;clear hd hf;intro K hK;go_simp;go_at_call 124;go_split_ands;(with_reducible refine jJ (RAbs_f d0) ?_);rintro e w2 ⟨x,rfl,e2,hx⟩;exact hK.out _ _ e2 hx (FreshIf.no rfl)}):P:=h
theorem zbq{P:Prop}(h:P:=by{ (with_reducible refine RgL.mk zb6 ?_);intro v a w' hE hd hf;have ev0:=hf.lit 9 (.pointer (some ⟨g9,0,none⟩)) za za;obtain⟨s8,a8,n8,c8,b8,h8⟩:=(S.mono hE).at 0 (g9) (IsI (k1+2) r0) rfl;have L0:=b8.c0;have L1:=b8.c1;clear hd hf;intro K hK;go_simp;exact hK.out _ _ (Ext.refl _) h8 (FreshIf.no rfl)}):P:=h
theorem zbr{P:Prop}(h:P:=by{ (with_reducible refine RgL.mk zb6 ?_);intro v a w' hE hd hf;have ev0:=hf.lit 8 (.pointer (some ⟨g8,0,none⟩)) za za;obtain⟨s8,a8,n8,c8,b8,h8⟩:=(S.mono hE).at 1 (g8) (IsI (k1+2) q0) rfl;have L0:=b8.c0;have L1:=b8.c1;clear hd hf;intro K hK;go_simp;exact hK.out _ _ (Ext.refl _) h8 (FreshIf.no rfl)}):P:=h
theorem je{P:Prop}(h:P:=by{ (with_reducible refine RgL.mk zb6 ?_);intro v a w' hE hd hf;skip;clear hd hf;intro K hK;go_simp;go_at_call 26;go_split_ands;(with_reducible refine jJ (ROf_f _ 1 dcx dcx) ?_);rintro e w2 ⟨x,rfl,e2,hx⟩;exact hK.out _ _ e2 hx (FreshIf.no rfl)}):P:=h
theorem xp{P:Prop}(h:P:=by simp[results,Tryz.results126,go_sem,T0,U0,T1,U1]):P:=h
set_option maxRecDepth 100000
set_option maxHeartbeats 4000000
theorem RDivMod_f{k1 k2:Nat}{z1 z2:Int}{x y:Value}{w:World}(hx:IsI k1 z1 x w)(hy:IsI k2 z2 y w)(l1:k1<=2)(l2:k2<=2)(hz:z2≠0):
  Calls Tryz.prog 126 #[x,y] w (Ret w (IsT3 (IsI k1 (z1/z2)) (IsI k2 (z1%z2)) (iV 0))):=by
 obtain⟨s1,a1,n1,c1,rfl,h1⟩:=hx;obtain⟨s2,a2,n2,c2,rfl,h2⟩:=hy;have hz0:=hid hz;obtain⟨W,hW,S⟩:∃W,W=(((w.alloc (.cells #[.bool s1,.slice a1 n1 c1] 28)).alloc (.cells #[.bool s2,.slice a2 n2 c2] 28)).alloc (.cells #[.bool false,.slice none 0 0] 28)).alloc (.cells #[.bool false,.slice none 0 0] 28)/\St w W [(w.heap.size+1+1+1,IsI 0 0),(w.heap.size+1+1,IsI 0 0),(w.heap.size+1,IsI k2 z2),(w.heap.size,IsI k1 z1)]:=⟨_,rfl,(((((St.start w).new' (w.heap.size) (by simp) s1 a1 n1 c1 28 (IsI k1 z1) (IsI.gstb _ _) ⟨_,_,_,_,rfl,h1⟩).new' (w.heap.size+1) (by simp) s2 a2 n2 c2 28 (IsI k2 z2) (IsI.gstb _ _) ⟨_,_,_,_,rfl,h2.ext ((Ext.refl _).alloc _)⟩).new' (w.heap.size+1+1) (by simp) false none 0 0 28 (IsI 0 0) (IsI.gstb _ _) (IsI.nil _ _)).new' (w.heap.size+1+1+1) (by simp) false none 0 0 28 (IsI 0 0) (IsI.gstb _ _) (IsI.nil _ _))⟩;clear h1 h2;go_enter Tryz.func126,Tryz.ntmps126;go_upto_region 1 with fail;rw[<-hW];clear hW;obtain⟨sa,aa,na,ca,ba,ha⟩:=S.at 3 (w.heap.size) (IsI k1 z1) rfl;obtain⟨sb,ab,nb,cb,bb,hb⟩:=S.at 2 (w.heap.size+1) (IsI k2 z2) rfl;obtain⟨m1,g1,t1,e1⟩:=ha.int;obtain⟨m2,g2,t2,e2⟩:=hb.int;have hnb:nb≠0:=λh=>hz (hb.int.zero_iff.2 h)
 have hnb':((nb:Int)==0)=false:=by rw[jM];omega
 have hm2:0<m2:=by
  rcases jN m2 with h|h
  ·exact absurd (g2.zero.1 h) hnb
  ·exact h
 have HD:=hid (divide_c W aa ab na nb ca cb k1 k2 m1 m2 g1 g2 (by omega) (by omega) hm2);have Hba:=hid ba;have Hbb:=hid bb;have E1:=hid e1;have E2:=hid e2;have HM2:=hid hm2;have sz1:=hid ha.int.size;have sz2:=hid hb.int.size;clear g1 g2 t1 t2 ha hb e1 e2 hm2 hz hnb;have HS:=hid S;clear S;have F1:=ba.c0;have F2:=ba.c1;have F3:=ba.f0;have F4:=ba.f1;have G1:=bb.c0;have G2:=bb.c1;have G3:=bb.f0;have G4:=bb.f1;clear ba bb;go_wp2_with fail;refine jJ HD.out ?_;rintro e w1 ⟨v,rfl,e1,q1,r1,rfl,⟨aq,nq,cq,xq,rfl,hq,hqk,hqv⟩,⟨ar,nr,cr,xr,rfl,hr,hrk,hrv⟩⟩;have S:=HS.out.mono e1;have Hba:=hid (Hba.out.ext e1);have Hbb:=hid (Hbb.out.ext e1);have Hq:=hid hq;have Hr:=hid hr;have HS:=hid S;clear F1 F2 F3 F4 G1 G2 G3 G4 HD e1 S hq hr hnb';go_upto_region 4 with fail
 have hWd:∃w2,w2=w1.alloc (.cells #[.slice aq nq cq,.slice ar nr cr] 270)/\Qx w2 w1.heap.size (.slice aq nq cq) (.slice ar nr cr)/\Ext w1 w2:=
  ⟨_,rfl,⟨by simp,by simp,by simp,by simp,NoWord.slice _ _ _,NoWord.slice _ _ _⟩,(Ext.refl w1).alloc _⟩
 obtain⟨w2,hW,bd,e2⟩:=hWd;rw[<-hW];clear hW;obtain⟨gd,hgd⟩:∃gd,gd=w1.heap.size:=⟨_,rfl⟩;rw[<-hgd]at bd ⊢;clear hgd;obtain⟨q0,hq0⟩:∃q0:Int,q0=if (!(sa==sb))then -(qD xq:Int)else qD xq:=⟨_,rfl⟩
 obtain⟨r0,hr0⟩:∃r0:Int,r0=if sa then -(qD xr:Int)else qD xr:=⟨_,rfl⟩
 have HM:=hid (dm_math sa sb m1 m2 z1 z2 q0 r0 HM2.out E1.out E2.out (by rw[<-hqv];exact hq0) (by rw[<-hrv];exact hr0));have Hq0:=hid hq0;have Hr0:=hid hr0;have Bd:=hid bd;have C1:=hid (rmade_c w2 (!(sa==sb)) aq nq cq xq q0 (Hq.out.ext e2) Hq0.out);have S:=HS.out.mono e2;have Hba:=hid (Hba.out.ext e2);have Hbb:=hid (Hbb.out.ext e2);have Hr:=hid (Hr.out.ext e2);have HS:=hid S;have F1:=Hba.out.c0;have F2:=Hba.out.c1;have F3:=Hba.out.f0;have F4:=Hba.out.f1;have G1:=Hbb.out.c0;have G2:=Hbb.out.c1;have G3:=Hbb.out.f0;have G4:=Hbb.out.f1;have D1:=bd.c0;have D2:=bd.c1;have D3:=bd.f0;have D4:=bd.f1;clear S bd e2 hq0 hr0 Hq E1 E2 hqv hrv;go_wp2_with fail;refine jJ C1.out ?_;rintro e w3 ⟨s8,a8,n8,c8,rfl,e3,h8⟩;have S:=HS.out.mono e3;have Hba:=hid (Hba.out.ext e3);have Bd:=hid (Bd.out.ext e3);have Hr:=hid (Hr.out.ext e3);clear HS F1 F2 F3 F4 G1 G2 G3 G4 D1 D2 D3 D4 C1 e3;go_upto_region 5 with fail
 obtain⟨w4,hW,e4,S⟩:∃w4,w4=w3.alloc (.cells #[.bool s8,.slice a8 n8 c8] 28)/\Ext w3 w4/\St w w4 ((w3.heap.size,IsI (k1+2) q0) :: [(w.heap.size+1+1+1,IsI 0 0),(w.heap.size+1+1,IsI 0 0),(w.heap.size+1,IsI k2 z2),(w.heap.size,IsI k1 z1)]):=
  ⟨_,rfl,(Ext.refl _).alloc _,S.new' _ rfl s8 a8 n8 c8 _ (IsI (k1+2) q0) (IsI.gstb _ _) ⟨_,_,_,_,rfl,h8.mono hqk⟩⟩
 rw[<-hW];clear hW;obtain⟨g8,hg8⟩:∃g8,g8=w3.heap.size:=⟨_,rfl⟩;rw[<-hg8]at S ⊢;clear hg8 h8;have C2:=hid (rmade_c w4 sa ar nr cr xr r0 (Hr.out.ext e4) Hr0.out);have ba:=Hba.out.ext e4;have bd:=Bd.out.ext e4;have F1:=ba.c0;have F2:=ba.c1;have F3:=ba.f0;have F4:=ba.f1;have D1:=bd.c0;have D2:=bd.c1;have D3:=bd.f0;have D4:=bd.f1;have HS:=hid S;clear S Hba Hbb Bd Hr ba bd e4;go_wp2_with fail;refine jJ C2.out ?_;rintro e w5 ⟨s9,a9,n9,c9,rfl,e5,h9⟩;have S:=HS.out.mono e5;clear HS F1 F2 F3 F4 D1 D2 D3 D4 C2 e5;go_upto_region 6 with fail
 obtain⟨w6,hW,S⟩:∃w6,w6=w5.alloc (.cells #[.bool s9,.slice a9 n9 c9] 28)/\St w w6 ((w5.heap.size,IsI (k1+2) r0) :: [(g8,IsI (k1+2) q0),(w.heap.size+1+1+1,IsI 0 0),(w.heap.size+1+1,IsI 0 0),(w.heap.size+1,IsI k2 z2),(w.heap.size,IsI k1 z1)]):=
  ⟨_,rfl,S.new' _ rfl s9 a9 n9 c9 _ (IsI (k1+2) r0) (IsI.gstb _ _) ⟨_,_,_,_,rfl,h9.mono hrk⟩⟩
 rw[<-hW];clear hW;obtain⟨g9,hg9⟩:∃g9,g9=w5.heap.size:=⟨_,rfl⟩;rw[<-hg9]at S ⊢;clear hg9 h9 Hq0 Hr0 hqk hrk;rcases(by omega:r0<0\/0<=r0)with h0|h0
 ·have H0:=hid h0;have HD:=hid (dm_neg z1 z2 q0 r0 k1 k2 HM.out sz1.out sz2.out h0);have HT1:=hid (show(z1/z2).natAbs<4294967296^k1 by have h:=HD.out;rw[h.1];exact h.2.2.1);have HT2:=hid (show(z1%z2).natAbs<4294967296^k2 by have h:=HD.out;rw[h.2.1];exact h.2.2.2);clear h0;rcases(by omega:z2<0\/0<=z2)with hb|hb
  ·have HB:=hid hb;have HQ:=hid (show q0+1=z1/z2 by rw[HD.out.1,Int.sign_eq_neg_one_of_neg hb];omega);clear hb;refine qI 2 [some 34,some 35] [IsP g9 0,IsV (.bool true)] [] dcx za za za ?_ ?_ ?_ ?_
   ·repeat' (first|exact trivial|exact IsV.stb _|exact IsW.stb _|exact IsWk.stb _ _|exact IsI.stb _ _|exact IsB.stb _|exact IsR.stb _ _|exact IsMag.stb _ _|exact IsPos.stb|apply IsT3.stb|apply IsT2.stb|apply jO)
   ·exact(λ_ h=>by cases h)
   ·refine RgAll.cons zbh ?_;refine RgAll.cons zbm ?_;exact rn0
   intro v W6 e1 hZ _;replace S:=S.mono e1;have v1:v 1=.bool true:=hZ 1 dcx;simp only[lxE,Nat.reduceAdd];rw[v1];clear v1;clear hZ;clear e1;refine wpList_nil ?_;go_upto_region 7 with fail;refine qV 4 (dR 36 4) [IsI (k1+2) r0,IsI k2 z2,IsI k2 z2.natAbs,IsI k2 (z1%z2)] [] 1 za dcx za za za za za ?_ ?_ ?_ ?_
   ·repeat' (first|exact trivial|exact IsV.stb _|exact IsW.stb _|exact IsWk.stb _ _|exact IsI.stb _ _|exact IsB.stb _|exact IsR.stb _ _|exact IsMag.stb _ _|exact IsPos.stb|apply IsT3.stb|apply IsT2.stb|apply jO)
   ·exact(λ_ h=>by cases h)
   ·refine RgAll.cons zbq ?_;refine RgAll.cons zbo ?_;refine RgAll.cons zbp ?_;refine RgAll.cons zbg ?_;exact rn0
   intro v W7 e1 hZ _;replace S:=S.mono e1;obtain⟨s39,a39,n39,c39,v3,h39⟩:=(hZ 3 dcx:IsI k2 (z1%z2) (v 3) W7);simp only[lxE,Nat.reduceAdd];rw[v3];clear v3;clear hZ;clear e1;obtain⟨s8,a8,n8,c8,b8,_⟩:=S.at 0 (g9) (IsI (k1+2) r0) rfl;have F1:=b8.c0;have F2:=b8.c1;have F3:=b8.f0;have F4:=b8.f1;refine wpAny_ready (rs:= [4]) za (by simp) (AllReady.cons rfl (λK hK=>?_) AllReady.nil);go_simp;refine hK _ _ ?_;clear hK K;clear F1 F2 F3 F4 b8;obtain⟨W7a,hW,S2,G2,_⟩:=S.put 0 (g9) (IsI (k1+2) r0) (IsI k2 (z1%z2)) rfl s39 a39 n39 c39 (IsI.gstb _ _) ⟨_,_,_,_,rfl,h39⟩;rw[<-hW];clear hW S;have S:St w W7a [(g9,IsI k2 (z1%z2)),(g8,IsI (k1+2) q0),(w.heap.size+1+1+1,IsI 0 0),(w.heap.size+1+1,IsI 0 0),(w.heap.size+1,IsI k2 z2),(w.heap.size,IsI k1 z1)]:=S2;clear S2 G2;clear h39;refine jR za ?_ _;go_upto_region 8 with fail;refine qI 2 [some 40,some 41] [IsP (w.heap.size+1) 0,IsV (.bool true)] [] dcx za za za ?_ ?_ ?_ ?_
   ·repeat' (first|exact trivial|exact IsV.stb _|exact IsW.stb _|exact IsWk.stb _ _|exact IsI.stb _ _|exact IsB.stb _|exact IsR.stb _ _|exact IsMag.stb _ _|exact IsPos.stb|apply IsT3.stb|apply IsT2.stb|apply jO)
   ·exact(λ_ h=>by cases h)
   ·refine RgAll.cons zbd ?_;refine RgAll.cons (by{ (with_reducible refine RgL.mk zb6 ?_);intro v a w' hE hd hf;have d0:v 0=.pointer (some ⟨w.heap.size+1,0,none⟩):=hd 0 za;have ev0:=hf.val 0 40 _ d0 za za za;clear d0;obtain⟨s8,a8,n8,c8,b8,h8⟩:=(S.mono hE).at 4 (w.heap.size+1) (IsI k2 z2) rfl;have L0:=b8.c0;have L1:=b8.c1;obtain rfl:=h8.neg' (HB.out);clear hd hf;intro K hK;go_simp;exact hK.out _ _ (Ext.refl _) rfl (FreshIf.no rfl)}) ?_;exact rn0
   intro v W8 e1 hZ _;replace S:=S.mono e1;have v1:v 1=.bool true:=hZ 1 dcx;simp only[lxE,Nat.reduceAdd];rw[v1];clear v1;clear hZ;clear e1;refine wpList_nil ?_;go_upto_region 9 with fail;refine qV 3 (dR 42 3) [IsI (k1+2) q0,IsI 2 1,IsI k1 (z1/z2)] [] 1 za dcx za za za za za ?_ ?_ ?_ ?_
   ·repeat' (first|exact trivial|exact IsV.stb _|exact IsW.stb _|exact IsWk.stb _ _|exact IsI.stb _ _|exact IsB.stb _|exact IsR.stb _ _|exact IsMag.stb _ _|exact IsPos.stb|apply IsT3.stb|apply IsT2.stb|apply jO)
   ·exact(λ_ h=>by cases h)
   ·refine RgAll.cons zbr ?_;refine RgAll.cons je ?_;refine RgAll.cons (by{ (with_reducible refine RgL.mk zb6 ?_);intro v a w' hE hd hf;have d0:(IsI (k1+2) q0) (v 0) w':=hd 0 za;have ev0:=hf.val 0 42 _ rfl za za za;have d1:(IsI 2 1) (v 1) w':=hd 1 za;have ev1:=hf.val 1 43 _ rfl za za za;clear hd hf;intro K hK;go_simp;go_at_call 51;go_split_ands;(with_reducible refine jJ (jJ (RAdd_f d0 d1 (by omega) (by omega)) λ_ _ h=>(h.eqz HQ.out).mono λ_ _ h=>h.tight (k':=k1) HT1.out) ?_);rintro e w2 ⟨x,rfl,e2,hx⟩;exact hK.out _ _ e2 hx (FreshIf.no rfl)}) ?_;exact rn0
   intro v W9 e1 hZ _;replace S:=S.mono e1;obtain⟨s44,a44,n44,c44,v2,h44⟩:=(hZ 2 dcx:IsI k1 (z1/z2) (v 2) W9);simp only[lxE,Nat.reduceAdd];rw[v2];clear v2;clear hZ;clear e1;obtain⟨s8,a8,n8,c8,b8,_⟩:=S.at 1 (g8) (IsI (k1+2) q0) rfl;have F1:=b8.c0;have F2:=b8.c1;have F3:=b8.f0;have F4:=b8.f1;refine wpAny_ready (rs:= [3]) za (by simp) (AllReady.cons rfl (λK hK=>?_) AllReady.nil);go_simp;refine hK _ _ ?_;clear hK K;clear F1 F2 F3 F4 b8;obtain⟨W9a,hW,S2,G2,_⟩:=S.put 1 (g8) (IsI (k1+2) q0) (IsI k1 (z1/z2)) rfl s44 a44 n44 c44 (IsI.gstb _ _) ⟨_,_,_,_,rfl,h44⟩;rw[<-hW];clear hW S;have S:St w W9a [(g9,IsI k2 (z1%z2)),(g8,IsI k1 (z1/z2)),(w.heap.size+1+1+1,IsI 0 0),(w.heap.size+1+1,IsI 0 0),(w.heap.size+1,IsI k2 z2),(w.heap.size,IsI k1 z1)]:=S2;clear S2 G2;clear h44;refine jR za ?_ _;go_upto_region 11 with fail;obtain⟨ms0,ma0,mn0,mc0,mb0,mh0⟩:=S.at 1 (g8) (IsI k1 (z1/z2)) rfl;have M00:=mb0.c0;have M10:=mb0.c1;have M20:=mb0.f0;have M30:=mb0.f1;obtain⟨ms1,ma1,mn1,mc1,mb1,mh1⟩:=S.at 0 (g9) (IsI k2 (z1%z2)) rfl;have M01:=mb1.c0;have M11:=mb1.c1;have M21:=mb1.f0;have M31:=mb1.f1;obtain⟨ms2,ma2,mn2,mc2,mb2,mh2⟩:=S.at 3 (w.heap.size+1+1) (IsI 0 0) rfl;have M02:=mb2.c0;have M12:=mb2.c1;have M22:=mb2.f0;have M32:=mb2.f1;obtain⟨ms3,ma3,mn3,mc3,mb3,mh3⟩:=S.at 2 (w.heap.size+1+1+1) (IsI 0 0) rfl;have M03:=mb3.c0;have M13:=mb3.c1;have M23:=mb3.f0;have M33:=mb3.f1;have N0_1:g8≠g9:=S.ne 1 0 _ _ rfl rfl dcx;have N0_2:g8≠w.heap.size+1+1:=S.ne 1 3 _ _ rfl rfl dcx;have N0_3:g8≠w.heap.size+1+1+1:=S.ne 1 2 _ _ rfl rfl dcx;have N1_0:g9≠g8:=S.ne 0 1 _ _ rfl rfl dcx;have N1_2:g9≠w.heap.size+1+1:=S.ne 0 3 _ _ rfl rfl dcx;have N1_3:g9≠w.heap.size+1+1+1:=S.ne 0 2 _ _ rfl rfl dcx;have N2_0:w.heap.size+1+1≠g8:=S.ne 3 1 _ _ rfl rfl dcx;have N2_1:w.heap.size+1+1≠g9:=S.ne 3 0 _ _ rfl rfl dcx;have N2_3:w.heap.size+1+1≠w.heap.size+1+1+1:=S.ne 3 2 _ _ rfl rfl dcx;have N3_0:w.heap.size+1+1+1≠g8:=S.ne 2 1 _ _ rfl rfl dcx;have N3_1:w.heap.size+1+1+1≠g9:=S.ne 2 0 _ _ rfl rfl dcx;have N3_2:w.heap.size+1+1+1≠w.heap.size+1+1:=S.ne 2 3 _ _ rfl rfl dcx
   go_region
   all_goals (go_wp2_with fail)
   all_goals
    obtain⟨W11,hW,S,G2,_⟩:=S.put 3 (w.heap.size+1+1) (IsI 0 0) (IsI k1 (z1/z2)) rfl ms0 ma0 mn0 mc0 (IsI.gstb _ _) mh0;rw[<-hW];clear hW;replace mh0:=IsI.gstb _ _ _ _ _ G2 mh0;replace mh1:=IsI.gstb _ _ _ _ _ G2 mh1;replace mh2:=IsI.gstb _ _ _ _ _ G2 mh2;replace mh3:=IsI.gstb _ _ _ _ _ G2 mh3;obtain⟨W11a,hW,S,G2,_⟩:=S.put 2 (w.heap.size+1+1+1) (IsI 0 0) (IsI k2 (z1%z2)) rfl ms1 ma1 mn1 mc1 (IsI.gstb _ _) mh1;rw[<-hW];clear hW;replace mh0:=IsI.gstb _ _ _ _ _ G2 mh0;replace mh1:=IsI.gstb _ _ _ _ _ G2 mh1;replace mh2:=IsI.gstb _ _ _ _ _ G2 mh2;replace mh3:=IsI.gstb _ _ _ _ _ G2 mh3;have S:St w W11a [(g9,IsI k2 (z1%z2)),(g8,IsI k1 (z1/z2)),(w.heap.size+1+1+1,IsI k2 (z1%z2)),(w.heap.size+1+1,IsI k1 (z1/z2)),(w.heap.size+1,IsI k2 z2),(w.heap.size,IsI k1 z1)]:=S;clear M00 M10 M20 M30 mb0 mh0 M01 M11 M21 M31 mb1 mh1 M02 M12 M22 M32 mb2 mh2 M03 M13 M23 M33 mb3 mh3;replace S:=S.mono (Ext.refl _).drew;obtain⟨rs0,ra0,rn0,rc0,rb0,rh0⟩:=S.at 3 (w.heap.size+1+1) (IsI k1 (z1/z2)) rfl;have T0:=rb0.c0;have U0:=rb0.c1;obtain⟨rs1,ra1,rn1,rc1,rb1,rh1⟩:=S.at 2 (w.heap.size+1+1+1) (IsI k2 (z1%z2)) rfl;have T1:=rb1.c0;have U1:=rb1.c1;exact jK (v:=.tuple #[.agg #[.bool rs0,.slice ra0 rn0 rc0],.agg #[.bool rs1,.slice ra1 rn1 rc1],.int .i64 0]) xp rfl (⟨_,rfl,S.ext,_,_,_,rfl,rh0,rh1,rfl⟩)
  ·have HB:=hid hb;have HQ:=hid (show q0-1=z1/z2 by rw[HD.out.1,Int.sign_eq_one_of_pos (by have:=hz0.out;omega)]);clear hb;refine qI 2 [some 34,some 35] [IsP g9 0,IsV (.bool true)] [] dcx za za za ?_ ?_ ?_ ?_
   ·repeat' (first|exact trivial|exact IsV.stb _|exact IsW.stb _|exact IsWk.stb _ _|exact IsI.stb _ _|exact IsB.stb _|exact IsR.stb _ _|exact IsMag.stb _ _|exact IsPos.stb|apply IsT3.stb|apply IsT2.stb|apply jO)
   ·exact(λ_ h=>by cases h)
   ·refine RgAll.cons zbh ?_;refine RgAll.cons zbm ?_;exact rn0
   intro v W6 e1 hZ _;replace S:=S.mono e1;have v1:v 1=.bool true:=hZ 1 dcx;simp only[lxE,Nat.reduceAdd];rw[v1];clear v1;clear hZ;clear e1;refine wpList_nil ?_;go_upto_region 7 with fail;refine qV 4 (dR 36 4) [IsI (k1+2) r0,IsI k2 z2,IsI k2 z2.natAbs,IsI k2 (z1%z2)] [] 1 za dcx za za za za za ?_ ?_ ?_ ?_
   ·repeat' (first|exact trivial|exact IsV.stb _|exact IsW.stb _|exact IsWk.stb _ _|exact IsI.stb _ _|exact IsB.stb _|exact IsR.stb _ _|exact IsMag.stb _ _|exact IsPos.stb|apply IsT3.stb|apply IsT2.stb|apply jO)
   ·exact(λ_ h=>by cases h)
   ·refine RgAll.cons zbq ?_;refine RgAll.cons zbo ?_;refine RgAll.cons zbp ?_;refine RgAll.cons zbg ?_;exact rn0
   intro v W7 e1 hZ _;replace S:=S.mono e1;obtain⟨s39,a39,n39,c39,v3,h39⟩:=(hZ 3 dcx:IsI k2 (z1%z2) (v 3) W7);simp only[lxE,Nat.reduceAdd];rw[v3];clear v3;clear hZ;clear e1;obtain⟨s8,a8,n8,c8,b8,_⟩:=S.at 0 (g9) (IsI (k1+2) r0) rfl;have F1:=b8.c0;have F2:=b8.c1;have F3:=b8.f0;have F4:=b8.f1;refine wpAny_ready (rs:= [4]) za (by simp) (AllReady.cons rfl (λK hK=>?_) AllReady.nil);go_simp;refine hK _ _ ?_;clear hK K;clear F1 F2 F3 F4 b8;obtain⟨W7a,hW,S2,G2,_⟩:=S.put 0 (g9) (IsI (k1+2) r0) (IsI k2 (z1%z2)) rfl s39 a39 n39 c39 (IsI.gstb _ _) ⟨_,_,_,_,rfl,h39⟩;rw[<-hW];clear hW S;have S:St w W7a [(g9,IsI k2 (z1%z2)),(g8,IsI (k1+2) q0),(w.heap.size+1+1+1,IsI 0 0),(w.heap.size+1+1,IsI 0 0),(w.heap.size+1,IsI k2 z2),(w.heap.size,IsI k1 z1)]:=S2;clear S2 G2;clear h39;refine jR za ?_ _;go_upto_region 8 with fail;refine qI 2 [some 40,some 41] [IsP (w.heap.size+1) 0,IsV (.bool false)] [] dcx za za za ?_ ?_ ?_ ?_
   ·repeat' (first|exact trivial|exact IsV.stb _|exact IsW.stb _|exact IsWk.stb _ _|exact IsI.stb _ _|exact IsB.stb _|exact IsR.stb _ _|exact IsMag.stb _ _|exact IsPos.stb|apply IsT3.stb|apply IsT2.stb|apply jO)
   ·exact(λ_ h=>by cases h)
   ·refine RgAll.cons zbd ?_;refine RgAll.cons (by{ (with_reducible refine RgL.mk zb6 ?_);intro v a w' hE hd hf;have d0:v 0=.pointer (some ⟨w.heap.size+1,0,none⟩):=hd 0 za;have ev0:=hf.val 0 40 _ d0 za za za;clear d0;obtain⟨s8,a8,n8,c8,b8,h8⟩:=(S.mono hE).at 4 (w.heap.size+1) (IsI k2 z2) rfl;have L0:=b8.c0;have L1:=b8.c1;obtain rfl:=h8.pos' (HB.out);clear hd hf;intro K hK;go_simp;exact hK.out _ _ (Ext.refl _) rfl (FreshIf.no rfl)}) ?_;exact rn0
   intro v W8 e1 hZ _;replace S:=S.mono e1;have v1:v 1=.bool false:=hZ 1 dcx;simp only[lxE,Nat.reduceAdd];rw[v1];clear v1;clear hZ;clear e1;refine wpList_nil ?_;go_upto_region 10 with fail;refine qV 3 (dR 45 3) [IsI (k1+2) q0,IsI 2 1,IsI k1 (z1/z2)] [] 1 za dcx za za za za za ?_ ?_ ?_ ?_
   ·repeat' (first|exact trivial|exact IsV.stb _|exact IsW.stb _|exact IsWk.stb _ _|exact IsI.stb _ _|exact IsB.stb _|exact IsR.stb _ _|exact IsMag.stb _ _|exact IsPos.stb|apply IsT3.stb|apply IsT2.stb|apply jO)
   ·exact(λ_ h=>by cases h)
   ·refine RgAll.cons zbr ?_;refine RgAll.cons je ?_;refine RgAll.cons (by{ (with_reducible refine RgL.mk zb6 ?_);intro v a w' hE hd hf;have d0:(IsI (k1+2) q0) (v 0) w':=hd 0 za;have ev0:=hf.val 0 45 _ rfl za za za;have d1:(IsI 2 1) (v 1) w':=hd 1 za;have ev1:=hf.val 1 46 _ rfl za za za;clear hd hf;intro K hK;go_simp;go_at_call 52;go_split_ands;(with_reducible refine jJ (jJ (RSub_f d0 d1 (by omega) (by omega)) λ_ _ h=>(h.eqz HQ.out).mono λ_ _ h=>h.tight (k':=k1) HT1.out) ?_);rintro e w2 ⟨x,rfl,e2,hx⟩;exact hK.out _ _ e2 hx (FreshIf.no rfl)}) ?_;exact rn0
   intro v W10 e1 hZ _;replace S:=S.mono e1;obtain⟨s47,a47,n47,c47,v2,h47⟩:=(hZ 2 dcx:IsI k1 (z1/z2) (v 2) W10);simp only[lxE,Nat.reduceAdd];rw[v2];clear v2;clear hZ;clear e1;obtain⟨s8,a8,n8,c8,b8,_⟩:=S.at 1 (g8) (IsI (k1+2) q0) rfl;have F1:=b8.c0;have F2:=b8.c1;have F3:=b8.f0;have F4:=b8.f1;refine wpAny_ready (rs:= [3]) za (by simp) (AllReady.cons rfl (λK hK=>?_) AllReady.nil);go_simp;refine hK _ _ ?_;clear hK K;clear F1 F2 F3 F4 b8;obtain⟨W10a,hW,S2,G2,_⟩:=S.put 1 (g8) (IsI (k1+2) q0) (IsI k1 (z1/z2)) rfl s47 a47 n47 c47 (IsI.gstb _ _) ⟨_,_,_,_,rfl,h47⟩;rw[<-hW];clear hW S;have S:St w W10a [(g9,IsI k2 (z1%z2)),(g8,IsI k1 (z1/z2)),(w.heap.size+1+1+1,IsI 0 0),(w.heap.size+1+1,IsI 0 0),(w.heap.size+1,IsI k2 z2),(w.heap.size,IsI k1 z1)]:=S2;clear S2 G2;clear h47;refine jR za ?_ _;go_upto_region 11 with fail;obtain⟨ms0,ma0,mn0,mc0,mb0,mh0⟩:=S.at 1 (g8) (IsI k1 (z1/z2)) rfl;have M00:=mb0.c0;have M10:=mb0.c1;have M20:=mb0.f0;have M30:=mb0.f1;obtain⟨ms1,ma1,mn1,mc1,mb1,mh1⟩:=S.at 0 (g9) (IsI k2 (z1%z2)) rfl;have M01:=mb1.c0;have M11:=mb1.c1;have M21:=mb1.f0;have M31:=mb1.f1;obtain⟨ms2,ma2,mn2,mc2,mb2,mh2⟩:=S.at 3 (w.heap.size+1+1) (IsI 0 0) rfl;have M02:=mb2.c0;have M12:=mb2.c1;have M22:=mb2.f0;have M32:=mb2.f1;obtain⟨ms3,ma3,mn3,mc3,mb3,mh3⟩:=S.at 2 (w.heap.size+1+1+1) (IsI 0 0) rfl;have M03:=mb3.c0;have M13:=mb3.c1;have M23:=mb3.f0;have M33:=mb3.f1;have N0_1:g8≠g9:=S.ne 1 0 _ _ rfl rfl dcx;have N0_2:g8≠w.heap.size+1+1:=S.ne 1 3 _ _ rfl rfl dcx;have N0_3:g8≠w.heap.size+1+1+1:=S.ne 1 2 _ _ rfl rfl dcx;have N1_0:g9≠g8:=S.ne 0 1 _ _ rfl rfl dcx;have N1_2:g9≠w.heap.size+1+1:=S.ne 0 3 _ _ rfl rfl dcx;have N1_3:g9≠w.heap.size+1+1+1:=S.ne 0 2 _ _ rfl rfl dcx;have N2_0:w.heap.size+1+1≠g8:=S.ne 3 1 _ _ rfl rfl dcx;have N2_1:w.heap.size+1+1≠g9:=S.ne 3 0 _ _ rfl rfl dcx;have N2_3:w.heap.size+1+1≠w.heap.size+1+1+1:=S.ne 3 2 _ _ rfl rfl dcx;have N3_0:w.heap.size+1+1+1≠g8:=S.ne 2 1 _ _ rfl rfl dcx;have N3_1:w.heap.size+1+1+1≠g9:=S.ne 2 0 _ _ rfl rfl dcx;have N3_2:w.heap.size+1+1+1≠w.heap.size+1+1:=S.ne 2 3 _ _ rfl rfl dcx
   go_region
   all_goals (go_wp2_with fail)
   all_goals
    obtain⟨W11,hW,S,G2,_⟩:=S.put 3 (w.heap.size+1+1) (IsI 0 0) (IsI k1 (z1/z2)) rfl ms0 ma0 mn0 mc0 (IsI.gstb _ _) mh0;rw[<-hW];clear hW;replace mh0:=IsI.gstb _ _ _ _ _ G2 mh0;replace mh1:=IsI.gstb _ _ _ _ _ G2 mh1;replace mh2:=IsI.gstb _ _ _ _ _ G2 mh2;replace mh3:=IsI.gstb _ _ _ _ _ G2 mh3;obtain⟨W11a,hW,S,G2,_⟩:=S.put 2 (w.heap.size+1+1+1) (IsI 0 0) (IsI k2 (z1%z2)) rfl ms1 ma1 mn1 mc1 (IsI.gstb _ _) mh1;rw[<-hW];clear hW;replace mh0:=IsI.gstb _ _ _ _ _ G2 mh0;replace mh1:=IsI.gstb _ _ _ _ _ G2 mh1;replace mh2:=IsI.gstb _ _ _ _ _ G2 mh2;replace mh3:=IsI.gstb _ _ _ _ _ G2 mh3;have S:St w W11a [(g9,IsI k2 (z1%z2)),(g8,IsI k1 (z1/z2)),(w.heap.size+1+1+1,IsI k2 (z1%z2)),(w.heap.size+1+1,IsI k1 (z1/z2)),(w.heap.size+1,IsI k2 z2),(w.heap.size,IsI k1 z1)]:=S;clear M00 M10 M20 M30 mb0 mh0 M01 M11 M21 M31 mb1 mh1 M02 M12 M22 M32 mb2 mh2 M03 M13 M23 M33 mb3 mh3;replace S:=S.mono (Ext.refl _).drew;obtain⟨rs0,ra0,rn0,rc0,rb0,rh0⟩:=S.at 3 (w.heap.size+1+1) (IsI k1 (z1/z2)) rfl;have T0:=rb0.c0;have U0:=rb0.c1;obtain⟨rs1,ra1,rn1,rc1,rb1,rh1⟩:=S.at 2 (w.heap.size+1+1+1) (IsI k2 (z1%z2)) rfl;have T1:=rb1.c0;have U1:=rb1.c1;exact jK (v:=.tuple #[.agg #[.bool rs0,.slice ra0 rn0 rc0],.agg #[.bool rs1,.slice ra1 rn1 rc1],.int .i64 0]) xp rfl (⟨_,rfl,S.ext,_,_,_,rfl,rh0,rh1,rfl⟩)
 ·have H0:=hid h0;have HD:=hid (dm_pos z1 z2 q0 r0 k1 k2 HM.out sz1.out sz2.out h0);clear h0;refine qI 2 [some 34,some 35] [IsP g9 0,IsV (.bool false)] [] dcx za za za ?_ ?_ ?_ ?_
  ·repeat' (first|exact trivial|exact IsV.stb _|exact IsW.stb _|exact IsWk.stb _ _|exact IsI.stb _ _|exact IsB.stb _|exact IsR.stb _ _|exact IsMag.stb _ _|exact IsPos.stb|apply IsT3.stb|apply IsT2.stb|apply jO)
  ·exact(λ_ h=>by cases h)
  ·refine RgAll.cons zbh ?_;refine RgAll.cons (by{ (with_reducible refine RgL.mk zb6 ?_);intro v a w' hE hd hf;have d0:v 0=.pointer (some ⟨g9,0,none⟩):=hd 0 za;have ev0:=hf.val 0 34 _ d0 za za za;clear d0;obtain⟨s8,a8,n8,c8,b8,h8⟩:=(S.mono hE).at 0 (g9) (IsI (k1+2) r0) rfl;have L0:=b8.c0;have L1:=b8.c1;obtain rfl:=h8.pos' (H0.out);clear hd hf;intro K hK;go_simp;exact hK.out _ _ (Ext.refl _) rfl (FreshIf.no rfl)}) ?_;exact rn0
  intro v W6 e1 hZ _;replace S:=S.mono e1;have v1:v 1=.bool false:=hZ 1 dcx;simp only[lxE,Nat.reduceAdd];rw[v1];clear v1;clear hZ;clear e1;refine wpList_nil ?_;go_upto_region 11 with fail;obtain⟨ms0,ma0,mn0,mc0,mb0,mh0⟩:=S.at 1 (g8) (IsI (k1+2) q0) rfl;have M00:=mb0.c0;have M10:=mb0.c1;have M20:=mb0.f0;have M30:=mb0.f1;obtain⟨ms1,ma1,mn1,mc1,mb1,mh1⟩:=S.at 0 (g9) (IsI (k1+2) r0) rfl;have M01:=mb1.c0;have M11:=mb1.c1;have M21:=mb1.f0;have M31:=mb1.f1;obtain⟨ms2,ma2,mn2,mc2,mb2,mh2⟩:=S.at 3 (w.heap.size+1+1) (IsI 0 0) rfl;have M02:=mb2.c0;have M12:=mb2.c1;have M22:=mb2.f0;have M32:=mb2.f1;obtain⟨ms3,ma3,mn3,mc3,mb3,mh3⟩:=S.at 2 (w.heap.size+1+1+1) (IsI 0 0) rfl;have M03:=mb3.c0;have M13:=mb3.c1;have M23:=mb3.f0;have M33:=mb3.f1;have N0_1:g8≠g9:=S.ne 1 0 _ _ rfl rfl dcx;have N0_2:g8≠w.heap.size+1+1:=S.ne 1 3 _ _ rfl rfl dcx;have N0_3:g8≠w.heap.size+1+1+1:=S.ne 1 2 _ _ rfl rfl dcx;have N1_0:g9≠g8:=S.ne 0 1 _ _ rfl rfl dcx;have N1_2:g9≠w.heap.size+1+1:=S.ne 0 3 _ _ rfl rfl dcx;have N1_3:g9≠w.heap.size+1+1+1:=S.ne 0 2 _ _ rfl rfl dcx;have N2_0:w.heap.size+1+1≠g8:=S.ne 3 1 _ _ rfl rfl dcx;have N2_1:w.heap.size+1+1≠g9:=S.ne 3 0 _ _ rfl rfl dcx;have N2_3:w.heap.size+1+1≠w.heap.size+1+1+1:=S.ne 3 2 _ _ rfl rfl dcx;have N3_0:w.heap.size+1+1+1≠g8:=S.ne 2 1 _ _ rfl rfl dcx;have N3_1:w.heap.size+1+1+1≠g9:=S.ne 2 0 _ _ rfl rfl dcx;have N3_2:w.heap.size+1+1+1≠w.heap.size+1+1:=S.ne 2 3 _ _ rfl rfl dcx
  go_region
  all_goals (go_wp2_with fail)
  all_goals
   obtain⟨W11,hW,S,G2,_⟩:=S.put 3 (w.heap.size+1+1) (IsI 0 0) (IsI (k1+2) q0) rfl ms0 ma0 mn0 mc0 (IsI.gstb _ _) mh0;rw[<-hW];clear hW;replace mh0:=IsI.gstb _ _ _ _ _ G2 mh0;replace mh1:=IsI.gstb _ _ _ _ _ G2 mh1;replace mh2:=IsI.gstb _ _ _ _ _ G2 mh2;replace mh3:=IsI.gstb _ _ _ _ _ G2 mh3;obtain⟨W11a,hW,S,G2,_⟩:=S.put 2 (w.heap.size+1+1+1) (IsI 0 0) (IsI (k1+2) r0) rfl ms1 ma1 mn1 mc1 (IsI.gstb _ _) mh1;rw[<-hW];clear hW;replace mh0:=IsI.gstb _ _ _ _ _ G2 mh0;replace mh1:=IsI.gstb _ _ _ _ _ G2 mh1;replace mh2:=IsI.gstb _ _ _ _ _ G2 mh2;replace mh3:=IsI.gstb _ _ _ _ _ G2 mh3;have S:St w W11a [(g9,IsI (k1+2) r0),(g8,IsI (k1+2) q0),(w.heap.size+1+1+1,IsI (k1+2) r0),(w.heap.size+1+1,IsI (k1+2) q0),(w.heap.size+1,IsI k2 z2),(w.heap.size,IsI k1 z1)]:=S;clear M00 M10 M20 M30 mb0 mh0 M01 M11 M21 M31 mb1 mh1 M02 M12 M22 M32 mb2 mh2 M03 M13 M23 M33 mb3 mh3;replace S:=S.mono (Ext.refl _).drew;obtain⟨rs0,ra0,rn0,rc0,rb0,rh0⟩:=S.at 3 (w.heap.size+1+1) (IsI (k1+2) q0) rfl;have T0:=rb0.c0;have U0:=rb0.c1;obtain⟨rs1,ra1,rn1,rc1,rb1,rh1⟩:=S.at 2 (w.heap.size+1+1+1) (IsI (k1+2) r0) rfl;have T1:=rb1.c0;have U1:=rb1.c1;exact jK (v:=.tuple #[.agg #[.bool rs0,.slice ra0 rn0 rc0],.agg #[.bool rs1,.slice ra1 rn1 rc1],.int .i64 0]) xp rfl (⟨_,rfl,S.ext,_,_,_,rfl,by rw[HD.out.1];exact rh0.tight HD.out.2.2.1,by rw[HD.out.2.1];exact rh1.tight HD.out.2.2.2,rfl⟩)
end
section
open Go Go.RowKit
theorem zbe{P:Prop}(h:P:=by{ (with_reducible refine RgL.mk zb6 ?_);intro v a w' hE hd hf;have ev0:=hf.lit 3 (.pointer (some ⟨w.heap.size+1,0,none⟩)) za za;obtain⟨s8,a8,n8,c8,b8,h8⟩:=(S.mono hE).at 1 (w.heap.size+1) (IsI k2 z2) rfl;have L0:=b8.c0;have L1:=b8.c1;clear hd hf;intro K hK;go_simp;exact hK.out _ _ (Ext.refl _) h8 (FreshIf.no rfl)}):P:=h
theorem zbf{P:Prop}(h:P:=by{ (with_reducible refine RgL.mk zb6 ?_);intro v a w' hE hd hf;have ev0:=hf.lit 2 (.pointer (some ⟨w.heap.size,0,none⟩)) za za;obtain⟨s8,a8,n8,c8,b8,h8⟩:=(S.mono hE).at 2 (w.heap.size) (IsI k1 z1) rfl;have L0:=b8.c0;have L1:=b8.c1;clear hd hf;intro K hK;go_simp;exact hK.out _ _ (Ext.refl _) h8 (FreshIf.no rfl)}):P:=h
theorem zbi{P:Prop}(h:P:=by{ (with_reducible refine RgL.mk zb6 ?_);intro v a w' hE hd hf;have d0:(IsI k1 z1) (v 0) w':=hd 0 za;have ev0:=hf.val 0 9 _ rfl za za za;have d1:(IsI k2 z2) (v 1) w':=hd 1 za;have ev1:=hf.val 1 10 _ rfl za za za;clear hd hf;intro K hK;go_simp;go_at_call 126;go_split_ands;(with_reducible refine jJ (RDivMod_f d0 d1 l1 l2 HZ.out) ?_);rintro e w2 ⟨x,rfl,e2,hx⟩;exact hK.out _ _ e2 hx (FreshIf.no rfl)}):P:=h
theorem zbs{P:Prop}(h:P:=by{ (with_reducible refine RgL.mk zb6 ?_);intro v a w' hE hd hf;have d0:(IsT3 (IsI k1 (z1/z2)) (IsI k2 (z1%z2)) (iV 0)) (v 3) w':=hd 3 za;obtain⟨x0,x1,x2,z0,y0,y1,y2⟩:=d0;have ev0:=hf.val 3 8 _ z0 za za za;clear z0;clear hd hf;intro K hK;go_simp;exact hK.out _ _ (Ext.refl _) y0 (FreshIf.no rfl)}):P:=h
theorem zbt{P:Prop}(h:P:=by{ (with_reducible refine RgL.mk zb6 ?_);intro v a w' hE hd hf;have d0:(IsT3 (IsI k1 (z1/z2)) (IsI k2 (z1%z2)) (iV 0)) (v 3) w':=hd 3 za;obtain⟨x0,x1,x2,z0,y0,y1,y2⟩:=d0;have ev0:=hf.val 3 8 _ z0 za za za;clear z0;clear hd hf;intro K hK;go_simp;exact hK.out _ _ (Ext.refl _) y1 (FreshIf.no rfl)}):P:=h
theorem zbu{P:Prop}(h:P:=by{ (with_reducible refine RgL.mk zb6 ?_);intro v a w' hE hd hf;have d0:(IsT3 (IsI k1 (z1/z2)) (IsI k2 (z1%z2)) (iV 0)) (v 3) w':=hd 3 za;obtain⟨x0,x1,x2,z0,y0,y1,y2⟩:=d0;have ev0:=hf.val 3 8 _ z0 za za za;clear z0;clear hd hf;intro K hK;go_simp;exact hK.out _ _ (Ext.refl _) y2 (FreshIf.no rfl)}):P:=h
theorem zbv{P:Prop}(h:P:=by{ (with_reducible refine RgL.mk zb6 ?_);intro v a w' hE hd hf;have d0:(IsT3 (IsI k1 (z1/z2)) (IsI k2 (z1%z2)) (iV 0)) (v 2) w':=hd 2 za;have ev0:=hf.val 2 11 _ rfl za za za;clear hd hf;intro K hK;go_simp;exact hK.out _ _ (Ext.refl _) d0 (FreshIf.no rfl)}):P:=h
theorem zg{P:Prop}(h:P:=by{ (with_reducible refine RgL.mk zb6 ?_);intro v a w' hE hd hf;skip;clear hd hf;intro K hK;go_simp;refine hK.out _ _ ((Ext.refl _).alloc _) ⟨_,rfl,hE.size,Bx.new _ _ _ _ _⟩ FreshIf.yes}):P:=h
theorem zh{P:Prop}(h:P:=by exact⟨_,rfl,((((St.start w).new' (w.heap.size) (by simp) s1 a1 n1 c1 28 (IsI k1 z1) (IsI.gstb _ _) ⟨_,_,_,_,rfl,h1⟩).new' (w.heap.size+1) (by simp) s2 a2 n2 c2 28 (IsI k2 z2) (IsI.gstb _ _) ⟨_,_,_,_,rfl,h2.ext ((Ext.refl _).alloc _)⟩).new' (w.heap.size+1+1) (by simp) false none 0 0 28 (IsI 0 0) (IsI.gstb _ _) (IsI.nil _ _))⟩):P:=h
set_option maxRecDepth 100000
set_option maxHeartbeats 4000000
theorem RDiv_f{k1 k2:Nat}{z1 z2:Int}{x y:Value}{w:World}(hx:IsI k1 z1 x w)(hy:IsI k2 z2 y w)(l1:k1<=2)(l2:k2<=2)(hz:z2≠0):Calls Tryz.prog 105 #[x,y] w (Ret w (IsI k1 (z1/z2))):=by
 obtain⟨s1,a1,n1,c1,rfl,h1⟩:=hx;obtain⟨s2,a2,n2,c2,rfl,h2⟩:=hy;have HZ:=hid hz;obtain⟨W,hW,S⟩:∃W,W=((w.alloc (.cells #[.bool s1,.slice a1 n1 c1] 28)).alloc (.cells #[.bool s2,.slice a2 n2 c2] 28)).alloc (.cells #[.bool false,.slice none 0 0] 28)/\St w W [(w.heap.size+1+1,IsI 0 0),(w.heap.size+1,IsI k2 z2),(w.heap.size,IsI k1 z1)]:=zh;clear h1 h2;go_enter Tryz.func105,Tryz.ntmps105;go_upto_region 1 with fail;rw[<-hW];clear hW;have hl:=hid S.lt;have hw:=S.ext.size;refine qI 9 [some 9,some 10,some 11,some 8,some 12,some 13,some 14,some 5,some 6] [IsI k1 z1,IsI k2 z2,IsT3 (IsI k1 (z1/z2)) (IsI k2 (z1%z2)) (iV 0),IsT3 (IsI k1 (z1/z2)) (IsI k2 (z1%z2)) (iV 0),IsI k1 (z1/z2),IsI k2 (z1%z2),iV 0,IsB W,IsB W] [7,8] dcx za za za ?_ ?_ ?_ ?_
 ·repeat' (first|exact trivial|exact IsV.stb _|exact IsW.stb _|exact IsWk.stb _ _|exact IsI.stb _ _|exact IsB.stb _|exact IsR.stb _ _|exact IsMag.stb _ _|exact IsPos.stb|apply IsT3.stb|apply IsT2.stb|apply jO)
 ·intro i hi;simp only[List.mem_cons,List.not_mem_nil,or_false]at hi;rcases hi with rfl|rfl <;> exact IsB.box _
 ·refine RgAll.cons zbf ?_;refine RgAll.cons zbe ?_;refine RgAll.cons zbi ?_;refine RgAll.cons zbv ?_;refine RgAll.cons zbs ?_;refine RgAll.cons zbt ?_;refine RgAll.cons zbu ?_
  refine RgAll.cons zg ?_;refine RgAll.cons zg ?_;exact rn0
 intro v W1 e1 hZ hne;replace S:=S.mono e1;obtain⟨s12,a12,n12,c12,v4,h12⟩:=(hZ 4 dcx:IsI k1 (z1/z2) (v 4) W1);obtain⟨s13,a13,n13,c13,v5,h13⟩:=(hZ 5 dcx:IsI k2 (z1%z2) (v 5) W1);have v6:v 6=.int .i64 0:=hZ 6 dcx;obtain⟨g5,v7,q2,b1⟩:=(hZ 7 dcx:IsB W (v 7) W1);replace S:=S.addN (Apart.old hl.out q2) (jQ hw q2) b1;clear b1;obtain⟨g6,v8,q4,b3⟩:=(hZ 8 dcx:IsB W (v 8) W1);replace S:=S.addN (Apart.cons (λh=>hne 7 8 dcx dcx dcx dcx dcx (by rw[v7,v8,h])) (Apart.old hl.out q4)) (jQ hw q4) b3;clear b3;clear hne;simp only[lxE,Nat.reduceAdd];rw[v4,v5,v6,v7,v8];clear v4 v5 v6 v7 v8;clear hZ;clear hl hw;clear e1;obtain⟨s8,a8,n8,c8,b8,_⟩:=S.at 1 (g5) (IsI 0 0) rfl;have F1:=b8.c0;have F2:=b8.c1;have F3:=b8.f0;have F4:=b8.f1;refine jX λK hK=>?_;go_simp;refine hK _ _ ?_;clear hK K
 clear F1 F2 F3 F4 b8;obtain⟨W1a,hW,S2,G2,_⟩:=S.put 1 (g5) (IsI 0 0) (IsI k1 (z1/z2)) rfl s12 a12 n12 c12 (IsI.gstb _ _) ⟨_,_,_,_,rfl,h12⟩;rw[<-hW];clear hW S;replace h13:=h13.gr G2;have S:St w W1a [(g6,IsI 0 0),(g5,IsI k1 (z1/z2)),(w.heap.size+1+1,IsI 0 0),(w.heap.size+1,IsI k2 z2),(w.heap.size,IsI k1 z1)]:=S2;clear S2 G2;clear h12;obtain⟨s8,a8,n8,c8,b8,_⟩:=S.at 0 (g6) (IsI 0 0) rfl;have F1:=b8.c0;have F2:=b8.c1;have F3:=b8.f0;have F4:=b8.f1;refine jX λK hK=>?_;go_simp;refine hK _ _ ?_;clear hK K
 clear F1 F2 F3 F4 b8;obtain⟨W1b,hW,S2,G2,_⟩:=S.put 0 (g6) (IsI 0 0) (IsI k2 (z1%z2)) rfl s13 a13 n13 c13 (IsI.gstb _ _) ⟨_,_,_,_,rfl,h13⟩;rw[<-hW];clear hW S;have S:St w W1b [(g6,IsI k2 (z1%z2)),(g5,IsI k1 (z1/z2)),(w.heap.size+1+1,IsI 0 0),(w.heap.size+1,IsI k2 z2),(w.heap.size,IsI k1 z1)]:=S2;clear S2 G2;clear h13;refine jX λK hK=>?_;go_simp;refine hK _ _ ?_;clear hK K
 refine wpList_nil ?_;go_upto_region 2 with fail;refine qI 1 [some 15] [IsI k1 (z1/z2)] [] dcx za za za ?_ ?_ ?_ ?_
 ·repeat' (first|exact trivial|exact IsV.stb _|exact IsW.stb _|exact IsWk.stb _ _|exact IsI.stb _ _|exact IsB.stb _|exact IsR.stb _ _|exact IsMag.stb _ _|exact IsPos.stb|apply IsT3.stb|apply IsT2.stb|apply jO)
 ·exact(λ_ h=>by cases h)
 ·refine RgAll.cons (by{ (with_reducible refine RgL.mk zb6 ?_);intro v a w' hE hd hf;have ev0:=hf.lit 5 (.pointer (some ⟨g5,0,none⟩)) za za;obtain⟨s8,a8,n8,c8,b8,h8⟩:=(S.mono hE).at 1 (g5) (IsI k1 (z1/z2)) rfl;have L0:=b8.c0;have L1:=b8.c1;clear hd hf;intro K hK;go_simp;exact hK.out _ _ (Ext.refl _) h8 (FreshIf.no rfl)}) ?_;exact rn0
 intro v W2 e1 hZ _;replace S:=S.mono e1;obtain⟨s15,a15,n15,c15,v0,h15⟩:=(hZ 0 dcx:IsI k1 (z1/z2) (v 0) W2);simp only[lxE];rw[v0];clear v0;clear hZ;clear e1;obtain⟨s8,a8,n8,c8,b8,_⟩:=S.at 2 (w.heap.size+1+1) (IsI 0 0) rfl;have F1:=b8.c0;have F2:=b8.c1;have F3:=b8.f0;have F4:=b8.f1;refine jX λK hK=>?_;go_simp;refine hK _ _ ?_;clear hK K
 clear F1 F2 F3 F4 b8;obtain⟨W2a,hW,S2,G2,_⟩:=S.put 2 (w.heap.size+1+1) (IsI 0 0) (IsI k1 (z1/z2)) rfl s15 a15 n15 c15 (IsI.gstb _ _) ⟨_,_,_,_,rfl,h15⟩;rw[<-hW];clear hW S;have S:St w W2a [(g6,IsI k2 (z1%z2)),(g5,IsI k1 (z1/z2)),(w.heap.size+1+1,IsI k1 (z1/z2)),(w.heap.size+1,IsI k2 z2),(w.heap.size,IsI k1 z1)]:=S2;clear S2 G2;clear h15;refine wpList_nil ?_;go_wp2_with fail;obtain⟨rs0,ra0,rn0,rc0,rb0,rh0⟩:=S.at 2 (w.heap.size+1+1) (IsI k1 (z1/z2)) rfl;have T0:=rb0.c0;have U0:=rb0.c1;exact jK (v:=.agg #[.bool rs0,.slice ra0 rn0 rc0]) (by simp[results,Tryz.results105,go_sem,T0,U0]) rfl (⟨_,rfl,S.ext,rh0⟩)
theorem RMod_f{k1 k2:Nat}{z1 z2:Int}{x y:Value}{w:World}(hx:IsI k1 z1 x w)(hy:IsI k2 z2 y w)(l1:k1<=2)(l2:k2<=2)(hz:z2≠0):Calls Tryz.prog 125 #[x,y] w (Ret w (IsI k2 (z1%z2))):=by
 obtain⟨s1,a1,n1,c1,rfl,h1⟩:=hx;obtain⟨s2,a2,n2,c2,rfl,h2⟩:=hy;have HZ:=hid hz;obtain⟨W,hW,S⟩:∃W,W=((w.alloc (.cells #[.bool s1,.slice a1 n1 c1] 28)).alloc (.cells #[.bool s2,.slice a2 n2 c2] 28)).alloc (.cells #[.bool false,.slice none 0 0] 28)/\St w W [(w.heap.size+1+1,IsI 0 0),(w.heap.size+1,IsI k2 z2),(w.heap.size,IsI k1 z1)]:=zh;clear h1 h2;go_enter Tryz.func125,Tryz.ntmps125;go_upto_region 1 with fail;rw[<-hW];clear hW;have hl:=hid S.lt;have hw:=S.ext.size;refine qI 9 [some 9,some 10,some 11,some 8,some 12,some 13,some 14,some 5,some 6] [IsI k1 z1,IsI k2 z2,IsT3 (IsI k1 (z1/z2)) (IsI k2 (z1%z2)) (iV 0),IsT3 (IsI k1 (z1/z2)) (IsI k2 (z1%z2)) (iV 0),IsI k1 (z1/z2),IsI k2 (z1%z2),iV 0,IsB W,IsB W] [7,8] dcx za za za ?_ ?_ ?_ ?_
 ·repeat' (first|exact trivial|exact IsV.stb _|exact IsW.stb _|exact IsWk.stb _ _|exact IsI.stb _ _|exact IsB.stb _|exact IsR.stb _ _|exact IsMag.stb _ _|exact IsPos.stb|apply IsT3.stb|apply IsT2.stb|apply jO)
 ·intro i hi;simp only[List.mem_cons,List.not_mem_nil,or_false]at hi;rcases hi with rfl|rfl <;> exact IsB.box _
 ·refine RgAll.cons zbf ?_;refine RgAll.cons zbe ?_;refine RgAll.cons zbi ?_;refine RgAll.cons zbv ?_;refine RgAll.cons zbs ?_;refine RgAll.cons zbt ?_;refine RgAll.cons zbu ?_
  refine RgAll.cons zg ?_;refine RgAll.cons zg ?_;exact rn0
 intro v W1 e1 hZ hne;replace S:=S.mono e1;obtain⟨s12,a12,n12,c12,v4,h12⟩:=(hZ 4 dcx:IsI k1 (z1/z2) (v 4) W1);obtain⟨s13,a13,n13,c13,v5,h13⟩:=(hZ 5 dcx:IsI k2 (z1%z2) (v 5) W1);have v6:v 6=.int .i64 0:=hZ 6 dcx;obtain⟨g5,v7,q2,b1⟩:=(hZ 7 dcx:IsB W (v 7) W1);replace S:=S.addN (Apart.old hl.out q2) (jQ hw q2) b1;clear b1;obtain⟨g6,v8,q4,b3⟩:=(hZ 8 dcx:IsB W (v 8) W1);replace S:=S.addN (Apart.cons (λh=>hne 7 8 dcx dcx dcx dcx dcx (by rw[v7,v8,h])) (Apart.old hl.out q4)) (jQ hw q4) b3;clear b3;clear hne;simp only[lxE,Nat.reduceAdd];rw[v4,v5,v6,v7,v8];clear v4 v5 v6 v7 v8;clear hZ;clear hl hw;clear e1;obtain⟨s8,a8,n8,c8,b8,_⟩:=S.at 1 (g5) (IsI 0 0) rfl;have F1:=b8.c0;have F2:=b8.c1;have F3:=b8.f0;have F4:=b8.f1;refine jX λK hK=>?_;go_simp;refine hK _ _ ?_;clear hK K
 clear F1 F2 F3 F4 b8;obtain⟨W1a,hW,S2,G2,_⟩:=S.put 1 (g5) (IsI 0 0) (IsI k1 (z1/z2)) rfl s12 a12 n12 c12 (IsI.gstb _ _) ⟨_,_,_,_,rfl,h12⟩;rw[<-hW];clear hW S;replace h13:=h13.gr G2;have S:St w W1a [(g6,IsI 0 0),(g5,IsI k1 (z1/z2)),(w.heap.size+1+1,IsI 0 0),(w.heap.size+1,IsI k2 z2),(w.heap.size,IsI k1 z1)]:=S2;clear S2 G2;clear h12;obtain⟨s8,a8,n8,c8,b8,_⟩:=S.at 0 (g6) (IsI 0 0) rfl;have F1:=b8.c0;have F2:=b8.c1;have F3:=b8.f0;have F4:=b8.f1;refine jX λK hK=>?_;go_simp;refine hK _ _ ?_;clear hK K
 clear F1 F2 F3 F4 b8;obtain⟨W1b,hW,S2,G2,_⟩:=S.put 0 (g6) (IsI 0 0) (IsI k2 (z1%z2)) rfl s13 a13 n13 c13 (IsI.gstb _ _) ⟨_,_,_,_,rfl,h13⟩;rw[<-hW];clear hW S;have S:St w W1b [(g6,IsI k2 (z1%z2)),(g5,IsI k1 (z1/z2)),(w.heap.size+1+1,IsI 0 0),(w.heap.size+1,IsI k2 z2),(w.heap.size,IsI k1 z1)]:=S2;clear S2 G2;clear h13;refine jX λK hK=>?_;go_simp;refine hK _ _ ?_;clear hK K
 refine wpList_nil ?_;go_upto_region 2 with fail;refine qI 1 [some 15] [IsI k2 (z1%z2)] [] dcx za za za ?_ ?_ ?_ ?_
 ·repeat' (first|exact trivial|exact IsV.stb _|exact IsW.stb _|exact IsWk.stb _ _|exact IsI.stb _ _|exact IsB.stb _|exact IsR.stb _ _|exact IsMag.stb _ _|exact IsPos.stb|apply IsT3.stb|apply IsT2.stb|apply jO)
 ·exact(λ_ h=>by cases h)
 ·refine RgAll.cons (by{ (with_reducible refine RgL.mk zb6 ?_);intro v a w' hE hd hf;have ev0:=hf.lit 6 (.pointer (some ⟨g6,0,none⟩)) za za;obtain⟨s8,a8,n8,c8,b8,h8⟩:=(S.mono hE).at 0 (g6) (IsI k2 (z1%z2)) rfl;have L0:=b8.c0;have L1:=b8.c1;clear hd hf;intro K hK;go_simp;exact hK.out _ _ (Ext.refl _) h8 (FreshIf.no rfl)}) ?_;exact rn0
 intro v W2 e1 hZ _;replace S:=S.mono e1;obtain⟨s15,a15,n15,c15,v0,h15⟩:=(hZ 0 dcx:IsI k2 (z1%z2) (v 0) W2);simp only[lxE];rw[v0];clear v0;clear hZ;clear e1;obtain⟨s8,a8,n8,c8,b8,_⟩:=S.at 2 (w.heap.size+1+1) (IsI 0 0) rfl;have F1:=b8.c0;have F2:=b8.c1;have F3:=b8.f0;have F4:=b8.f1;refine jX λK hK=>?_;go_simp;refine hK _ _ ?_;clear hK K
 clear F1 F2 F3 F4 b8;obtain⟨W2a,hW,S2,G2,_⟩:=S.put 2 (w.heap.size+1+1) (IsI 0 0) (IsI k2 (z1%z2)) rfl s15 a15 n15 c15 (IsI.gstb _ _) ⟨_,_,_,_,rfl,h15⟩;rw[<-hW];clear hW S;have S:St w W2a [(g6,IsI k2 (z1%z2)),(g5,IsI k1 (z1/z2)),(w.heap.size+1+1,IsI k2 (z1%z2)),(w.heap.size+1,IsI k2 z2),(w.heap.size,IsI k1 z1)]:=S2;clear S2 G2;clear h15;refine wpList_nil ?_;go_wp2_with fail;obtain⟨rs0,ra0,rn0,rc0,rb0,rh0⟩:=S.at 2 (w.heap.size+1+1) (IsI k2 (z1%z2)) rfl;have T0:=rb0.c0;have U0:=rb0.c1;exact jK (v:=.agg #[.bool rs0,.slice ra0 rn0 rc0]) (by simp[results,Tryz.results125,go_sem,T0,U0]) rfl (⟨_,rfl,S.ext,rh0⟩)
end
section
open Go Go.RowKit
theorem zbn{P:Prop}(h:P:=by{ (with_reducible refine RgL.mk zb6 ?_);intro v a w' hE hd hf;have ev0:=hf.lit 2 (.pointer (some ⟨w.heap.size,0,none⟩)) za za;obtain⟨s8,a8,n8,c8,b8,h8⟩:=(S.mono hE).at 2 (w.heap.size) (IsI (max k1 k2) ((aa:Int))) rfl;have L0:=b8.c0;have L1:=b8.c1;clear hd hf;intro K hK;go_simp;exact hK.out _ _ (Ext.refl _) h8 (FreshIf.no rfl)}):P:=h
set_option maxRecDepth 100000
set_option maxHeartbeats 4000000
theorem IsI.eqz'{k:Nat}{z z':Int}{x:Value}{w:World}(h:IsI k z x w)(hz:z=z'):IsI k z' x w:=hz▸h
theorem RGcd_f{k1 k2:Nat}{z1 z2:Int}{x y:Value}{w:World}(hx:IsI k1 z1 x w)(hy:IsI k2 z2 y w)(l1:k1<=2)(l2:k2<=2):Calls Tryz.prog 104 #[x,y] w (Ret w (IsI (max k1 k2) ((Int.gcd z1 z2:Nat):Int))):=by
 obtain⟨s1,a1,n1,c1,rfl,h1⟩:=hx;obtain⟨s2,a2,n2,c2,rfl,h2⟩:=hy;obtain⟨W,hW,S⟩:∃W,W=((w.alloc (.cells #[.bool s1,.slice a1 n1 c1] 28)).alloc (.cells #[.bool s2,.slice a2 n2 c2] 28)).alloc (.cells #[.bool false,.slice none 0 0] 28)/\St w W [(w.heap.size+1+1,IsI 0 0),(w.heap.size+1,IsI k2 z2),(w.heap.size,IsI k1 z1)]:=zh;clear h1 h2;go_enter Tryz.func104,Tryz.ntmps104;go_upto_region 1 with fail;rw[<-hW];clear hW;refine qI 2 [some 6,some 7] [IsI k1 z1,IsI k1 z1.natAbs] [] dcx za za za ?_ ?_ ?_ ?_
 ·repeat' (first|exact trivial|exact IsV.stb _|exact IsW.stb _|exact IsWk.stb _ _|exact IsI.stb _ _|exact IsB.stb _|exact IsR.stb _ _|exact IsMag.stb _ _|exact IsPos.stb|apply IsT3.stb|apply IsT2.stb|apply jO)
 ·exact(λ_ h=>by cases h)
 ·refine RgAll.cons zbf ?_;refine RgAll.cons (by{ (with_reducible refine RgL.mk zb6 ?_);intro v a w' hE hd hf;have d0:(IsI k1 z1) (v 0) w':=hd 0 za;have ev0:=hf.val 0 6 _ rfl za za za;clear hd hf;intro K hK;go_simp;go_at_call 124;go_split_ands;(with_reducible refine jJ (RAbs_f d0) ?_);rintro e w2 ⟨x,rfl,e2,hx⟩;exact hK.out _ _ e2 hx (FreshIf.no rfl)}) ?_;exact rn0
 intro v W1 e1 hZ _;replace S:=S.mono e1;obtain⟨s7,a7,n7,c7,v1,h7⟩:=(hZ 1 dcx:IsI k1 z1.natAbs (v 1) W1);simp only[lxE,Nat.reduceAdd];rw[v1];clear v1;clear hZ;clear e1;obtain⟨s8,a8,n8,c8,b8,_⟩:=S.at 2 (w.heap.size) (IsI k1 z1) rfl;have F1:=b8.c0;have F2:=b8.c1;have F3:=b8.f0;have F4:=b8.f1;refine jX λK hK=>?_;go_simp;refine hK _ _ ?_;clear hK K
 clear F1 F2 F3 F4 b8;obtain⟨W1a,hW,S2,G2,_⟩:=S.put 2 (w.heap.size) (IsI k1 z1) (IsI k1 z1.natAbs) rfl s7 a7 n7 c7 (IsI.gstb _ _) ⟨_,_,_,_,rfl,h7⟩;rw[<-hW];clear hW S;have S:St w W1a [(w.heap.size+1+1,IsI 0 0),(w.heap.size+1,IsI k2 z2),(w.heap.size,IsI k1 z1.natAbs)]:=S2;clear S2 G2;clear h7;refine wpList_nil ?_;go_upto_region 2 with fail;refine qI 2 [some 8,some 9] [IsI k2 z2,IsI k2 z2.natAbs] [] dcx za za za ?_ ?_ ?_ ?_
 ·repeat' (first|exact trivial|exact IsV.stb _|exact IsW.stb _|exact IsWk.stb _ _|exact IsI.stb _ _|exact IsB.stb _|exact IsR.stb _ _|exact IsMag.stb _ _|exact IsPos.stb|apply IsT3.stb|apply IsT2.stb|apply jO)
 ·exact(λ_ h=>by cases h)
 ·refine RgAll.cons zbe ?_;refine RgAll.cons (by{ (with_reducible refine RgL.mk zb6 ?_);intro v a w' hE hd hf;have d0:(IsI k2 z2) (v 0) w':=hd 0 za;have ev0:=hf.val 0 8 _ rfl za za za;clear hd hf;intro K hK;go_simp;go_at_call 124;go_split_ands;(with_reducible refine jJ (RAbs_f d0) ?_);rintro e w2 ⟨x,rfl,e2,hx⟩;exact hK.out _ _ e2 hx (FreshIf.no rfl)}) ?_;exact rn0
 intro v W2 e1 hZ _;replace S:=S.mono e1;obtain⟨s9,a9,n9,c9,v1,h9⟩:=(hZ 1 dcx:IsI k2 z2.natAbs (v 1) W2);simp only[lxE,Nat.reduceAdd];rw[v1];clear v1;clear hZ;clear e1;obtain⟨s8,a8,n8,c8,b8,_⟩:=S.at 1 (w.heap.size+1) (IsI k2 z2) rfl;have F1:=b8.c0;have F2:=b8.c1;have F3:=b8.f0;have F4:=b8.f1;refine jX λK hK=>?_;go_simp;refine hK _ _ ?_;clear hK K
 clear F1 F2 F3 F4 b8;obtain⟨W2a,hW,S2,G2,_⟩:=S.put 1 (w.heap.size+1) (IsI k2 z2) (IsI k2 z2.natAbs) rfl s9 a9 n9 c9 (IsI.gstb _ _) ⟨_,_,_,_,rfl,h9⟩;rw[<-hW];clear hW S;have S:St w W2a [(w.heap.size+1+1,IsI 0 0),(w.heap.size+1,IsI k2 z2.natAbs),(w.heap.size,IsI k1 z1.natAbs)]:=S2;clear S2 G2;clear h9;refine wpList_nil ?_;go_wp2_with fail;have S0:=hid (show St w W2a [(w.heap.size+1+1,IsI 0 0),(w.heap.size+1,IsI (max k1 k2) (((z2.natAbs:Nat):Int))),(w.heap.size,IsI (max k1 k2) (((z1.natAbs:Nat):Int)))]from(S.weaken 1 _ _ (IsI (max k1 k2) ((z2.natAbs:Nat):Int)) rfl (IsI.gstb _ _) (λ_ h=>h.mono (Nat.le_max_right _ _))).weaken 2 _ _ (IsI (max k1 k2) ((z1.natAbs:Nat):Int)) rfl (IsI.gstb _ _) (λ_ h=>h.mono (Nat.le_max_left _ _)));clear S
 go_loopg [] z2.natAbs (λgk wr=>∃aa:Nat,Hid (Nat.gcd aa gk=Int.gcd z1 z2)/\Hid (St w wr [(w.heap.size+1+1,IsI 0 0),(w.heap.size+1,IsI (max k1 k2) ((gk:Nat):Int)),(w.heap.size,IsI (max k1 k2) (aa:Int))]))
 case atStart=>exact⟨z1.natAbs,hid rfl,S0⟩
 case round=>
  clear S0;obtain⟨aa,HG,S⟩:=hrel;have S:=S.out;rcases jN gk with hg|hg
  ·skip;subst hg;have HA:=hid (show(aa:Int)=((Int.gcd z1 z2:Nat):Int)by have h:=HG.out;rw[Nat.gcd_zero_right]at h;rw[h]);go_upto_region 3 with fail;refine qI 4 (dR 10 4) [IsP (w.heap.size+1) 1,IsMag (max k1 k2) (((0:Nat):Int)),iV 0,IsV (.bool false)] [] dcx za za za ?_ ?_ ?_ ?_
   ·repeat' (first|exact trivial|exact IsV.stb _|exact IsW.stb _|exact IsWk.stb _ _|exact IsI.stb _ _|exact IsB.stb _|exact IsR.stb _ _|exact IsMag.stb _ _|exact IsPos.stb|apply IsT3.stb|apply IsT2.stb|apply jO)
   ·exact(λ_ h=>by cases h)
   ·refine RgAll.cons zbd ?_;refine RgAll.cons (by{ (with_reducible refine RgL.mk zb6 ?_);intro v a w' hE hd hf;have d0:v 0=.pointer (some ⟨w.heap.size+1,1,none⟩):=hd 0 za;have ev0:=hf.val 0 10 _ d0 za za za;clear d0;obtain⟨s8,a8,n8,c8,b8,h8⟩:=(S.mono hE).at 1 (w.heap.size+1) (IsI (max k1 k2) (((0:Nat):Int))) rfl;have L0:=b8.c0;have L1:=b8.c1;obtain⟨s9,a9,n9,c9,k9,h9⟩:=h8;injection k9 with k9;simp only[Array.mk.injEq,List.cons.injEq,Value.bool.injEq,Value.slice.injEq,and_true]at k9;obtain⟨rfl,rfl,rfl,rfl⟩:=k9;clear hd hf;intro K hK;go_simp;exact hK.out _ _ (Ext.refl _) ⟨_,_,_,_,rfl,h9⟩ (FreshIf.no rfl)}) ?_;refine RgAll.cons (by{ (with_reducible refine RgL.mk zb6 ?_);intro v a w' hE hd hf;have d0:(IsMag (max k1 k2) (((0:Nat):Int))) (v 1) w':=hd 1 za;obtain⟨s9,a9,n9,c9,z0,h9⟩:=d0;have ev0:=hf.val 1 11 _ z0 za za za;clear z0;obtain rfl:n9=0:=h9.zero_iff.1 (rfl);clear hd hf;intro K hK;go_simp;exact hK.out _ _ (Ext.refl _) rfl (FreshIf.no rfl)}) ?_;refine RgAll.cons (by{ (with_reducible refine RgL.mk zb6 ?_);intro v a w' hE hd hf;have d0:v 2=.int .i64 0:=hd 2 za;have ev0:=hf.val 2 12 _ d0 za za za;clear d0;clear hd hf;intro K hK;go_simp;exact hK.out _ _ (Ext.refl _) rfl (FreshIf.no rfl)}) ?_;exact rn0
   intro v W3 e1 hZ _;replace S:=S.mono e1;have v3:v 3=.bool false:=hZ 3 dcx;simp only[lxE,Nat.reduceAdd];rw[v3];clear v3;clear hZ;clear e1;refine wpList_nil ?_;go_upto_region 7 with fail;refine qI 1 [some 19] [IsI (max k1 k2) ((aa:Int))] [] dcx za za za ?_ ?_ ?_ ?_
   ·repeat' (first|exact trivial|exact IsV.stb _|exact IsW.stb _|exact IsWk.stb _ _|exact IsI.stb _ _|exact IsB.stb _|exact IsR.stb _ _|exact IsMag.stb _ _|exact IsPos.stb|apply IsT3.stb|apply IsT2.stb|apply jO)
   ·exact(λ_ h=>by cases h)
   ·refine RgAll.cons zbn ?_;exact rn0
   intro v W7 e1 hZ _;replace S:=S.mono e1;obtain⟨s19,a19,n19,c19,v0,h19⟩:=(hZ 0 dcx:IsI (max k1 k2) ((aa:Int)) (v 0) W7);simp only[lxE];rw[v0];clear v0;clear hZ;clear e1;obtain⟨s8,a8,n8,c8,b8,_⟩:=S.at 0 (w.heap.size+1+1) (IsI 0 0) rfl;have F1:=b8.c0;have F2:=b8.c1;have F3:=b8.f0;have F4:=b8.f1;refine jX λK hK=>?_;go_simp;refine hK _ _ ?_;clear hK K
   clear F1 F2 F3 F4 b8;obtain⟨W7a,hW,S2,G2,_⟩:=S.put 0 (w.heap.size+1+1) (IsI 0 0) (IsI (max k1 k2) ((aa:Int))) rfl s19 a19 n19 c19 (IsI.gstb _ _) ⟨_,_,_,_,rfl,h19⟩;rw[<-hW];clear hW S;have S:St w W7a [(w.heap.size+1+1,IsI (max k1 k2) ((aa:Int))),(w.heap.size+1,IsI (max k1 k2) (((0:Nat):Int))),(w.heap.size,IsI (max k1 k2) ((aa:Int)))]:=S2;clear S2 G2;clear h19;refine wpList_nil ?_;go_wp2_with fail;obtain⟨rs0,ra0,rn0,rc0,rb0,rh0⟩:=S.at 0 (w.heap.size+1+1) (IsI (max k1 k2) ((aa:Int))) rfl;have T0:=rb0.c0;have U0:=rb0.c1;exact jK (v:=.agg #[.bool rs0,.slice ra0 rn0 rc0]) (by simp[results,Tryz.results104,go_sem,T0,U0]) rfl (⟨_,rfl,S.ext,IsI.eqz' rh0 HA.out⟩)
  ·skip;obtain⟨m,hm⟩:∃m,aa%gk=m:=⟨_,rfl⟩;have HM:=hid (show(aa:Int)%(gk:Int)=(m:Int)by rw[<-hm];simp);have HN:=hid (show Nat.gcd gk m=Int.gcd z1 z2 by rw[<-HG.out,<-hm,Nat.gcd_comm aa gk,Nat.gcd_rec gk aa,Nat.gcd_comm]);have HL:=hid (show m<gk by rw[<-hm];exact jV _ hg);have HZ:=hid (show(gk:Int)≠0 by omega);clear hm hg;go_upto_region 3 with fail;refine qI 4 (dR 10 4) [IsP (w.heap.size+1) 1,IsMag (max k1 k2) ((gk:Int)),IsPos,IsV (.bool true)] [] dcx za za za ?_ ?_ ?_ ?_
   ·repeat' (first|exact trivial|exact IsV.stb _|exact IsW.stb _|exact IsWk.stb _ _|exact IsI.stb _ _|exact IsB.stb _|exact IsR.stb _ _|exact IsMag.stb _ _|exact IsPos.stb|apply IsT3.stb|apply IsT2.stb|apply jO)
   ·exact(λ_ h=>by cases h)
   ·refine RgAll.cons zbd ?_;refine RgAll.cons (by{ (with_reducible refine RgL.mk zb6 ?_);intro v a w' hE hd hf;have d0:v 0=.pointer (some ⟨w.heap.size+1,1,none⟩):=hd 0 za;have ev0:=hf.val 0 10 _ d0 za za za;clear d0;obtain⟨s8,a8,n8,c8,b8,h8⟩:=(S.mono hE).at 1 (w.heap.size+1) (IsI (max k1 k2) ((gk:Int))) rfl;have L0:=b8.c0;have L1:=b8.c1;obtain⟨s9,a9,n9,c9,k9,h9⟩:=h8;injection k9 with k9;simp only[Array.mk.injEq,List.cons.injEq,Value.bool.injEq,Value.slice.injEq,and_true]at k9;obtain⟨rfl,rfl,rfl,rfl⟩:=k9;clear hd hf;intro K hK;go_simp;exact hK.out _ _ (Ext.refl _) ⟨_,_,_,_,rfl,h9⟩ (FreshIf.no rfl)}) ?_;refine RgAll.cons (by{ (with_reducible refine RgL.mk zb6 ?_);intro v a w' hE hd hf;have d0:(IsMag (max k1 k2) ((gk:Int))) (v 1) w':=hd 1 za;obtain⟨s9,a9,n9,c9,z0,h9⟩:=d0;have ev0:=hf.val 1 11 _ z0 za za za;clear z0;clear hd hf;intro K hK;go_simp;exact hK.out _ _ (Ext.refl _) ⟨n9,rfl,Nat.pos_of_ne_zero (λh0=>(HZ.out) (h9.zero_iff.2 h0)),h9.len⟩ (FreshIf.no rfl)}) ?_;refine RgAll.cons (by{ (with_reducible refine RgL.mk zb6 ?_);intro v a w' hE hd hf;have d0:IsPos (v 2) w':=hd 2 za;obtain⟨n9,z0,p9,q9⟩:=d0;have ev0:=hf.val 2 12 _ z0 za za za;clear z0;have hb9:((n9:Int)==0)=false:=(by rw[jM];omega);have hb8:decide ((0:Int)<(n9:Int))=true:=(by simp;omega);have hb7:decide (0<n9)=true:=(by simp;omega);have hb6:(n9==0)=false:=(by rw[jM];omega);clear hd hf;intro K hK;go_simp;exact hK.out _ _ (Ext.refl _) rfl (FreshIf.no rfl)}) ?_;exact rn0
   intro v W3 e1 hZ _;replace S:=S.mono e1;have v3:v 3=.bool true:=hZ 3 dcx;simp only[lxE,Nat.reduceAdd];rw[v3];clear v3;clear hZ;clear e1;refine wpList_nil ?_;go_upto_region 4 with fail;have hl:=hid S.lt;have hw:=S.ext.size;refine qI 4 [some 14,some 15,some 16,some 5] [IsI (max k1 k2) ((aa:Int)),IsI (max k1 k2) ((gk:Int)),IsI (max k1 k2) ((m:Int)),IsB W3] [3] dcx za za za ?_ ?_ ?_ ?_
   ·repeat' (first|exact trivial|exact IsV.stb _|exact IsW.stb _|exact IsWk.stb _ _|exact IsI.stb _ _|exact IsB.stb _|exact IsR.stb _ _|exact IsMag.stb _ _|exact IsPos.stb|apply IsT3.stb|apply IsT2.stb|apply jO)
   ·intro i hi;simp only[List.mem_cons,List.not_mem_nil,or_false]at hi;subst hi;exact IsB.box _
   ·refine RgAll.cons zbn ?_;refine RgAll.cons (by{ (with_reducible refine RgL.mk zb6 ?_);intro v a w' hE hd hf;have ev0:=hf.lit 3 (.pointer (some ⟨w.heap.size+1,0,none⟩)) za za;obtain⟨s8,a8,n8,c8,b8,h8⟩:=(S.mono hE).at 1 (w.heap.size+1) (IsI (max k1 k2) ((gk:Int))) rfl;have L0:=b8.c0;have L1:=b8.c1;clear hd hf;intro K hK;go_simp;exact hK.out _ _ (Ext.refl _) h8 (FreshIf.no rfl)}) ?_;refine RgAll.cons (by{ (with_reducible refine RgL.mk zb6 ?_);intro v a w' hE hd hf;have d0:(IsI (max k1 k2) ((aa:Int))) (v 0) w':=hd 0 za;have ev0:=hf.val 0 14 _ rfl za za za;have d1:(IsI (max k1 k2) ((gk:Int))) (v 1) w':=hd 1 za;have ev1:=hf.val 1 15 _ rfl za za za;clear hd hf;intro K hK;go_simp;go_at_call 125;go_split_ands;(with_reducible refine jJ (jJ (RMod_f d0 d1 (by omega) (by omega) HZ.out) λ_ _ h=>h.eqz HM.out) ?_);rintro e w2 ⟨x,rfl,e2,hx⟩;exact hK.out _ _ e2 hx (FreshIf.no rfl)}) ?_;refine RgAll.cons zg ?_;exact rn0
   intro v W4 e1 hZ _;replace S:=S.mono e1;obtain⟨s16,a16,n16,c16,v2,h16⟩:=(hZ 2 dcx:IsI (max k1 k2) ((m:Int)) (v 2) W4);obtain⟨g5,v3,q2,b1⟩:=(hZ 3 dcx:IsB W3 (v 3) W4);replace S:=S.addN (Apart.old hl.out q2) (jQ hw q2) b1;clear b1;simp only[lxE,Nat.reduceAdd];rw[v2,v3];clear v2 v3;clear hZ;clear hl hw;clear e1;obtain⟨s8,a8,n8,c8,b8,_⟩:=S.at 0 (g5) (IsI 0 0) rfl;have F1:=b8.c0;have F2:=b8.c1;have F3:=b8.f0;have F4:=b8.f1;refine jX λK hK=>?_;go_simp;refine hK _ _ ?_;clear hK K
   clear F1 F2 F3 F4 b8;obtain⟨W4a,hW,S2,G2,_⟩:=S.put 0 (g5) (IsI 0 0) (IsI (max k1 k2) ((m:Int))) rfl s16 a16 n16 c16 (IsI.gstb _ _) ⟨_,_,_,_,rfl,h16⟩;rw[<-hW];clear hW S;have S:St w W4a [(g5,IsI (max k1 k2) ((m:Int))),(w.heap.size+1+1,IsI 0 0),(w.heap.size+1,IsI (max k1 k2) ((gk:Int))),(w.heap.size,IsI (max k1 k2) ((aa:Int)))]:=S2;clear S2 G2;clear h16;refine wpList_nil ?_;go_upto_region 5 with fail;refine qI 1 [some 17] [IsI (max k1 k2) ((gk:Int))] [] dcx za za za ?_ ?_ ?_ ?_
   ·repeat' (first|exact trivial|exact IsV.stb _|exact IsW.stb _|exact IsWk.stb _ _|exact IsI.stb _ _|exact IsB.stb _|exact IsR.stb _ _|exact IsMag.stb _ _|exact IsPos.stb|apply IsT3.stb|apply IsT2.stb|apply jO)
   ·exact(λ_ h=>by cases h)
   ·refine RgAll.cons (by{ (with_reducible refine RgL.mk zb6 ?_);intro v a w' hE hd hf;have ev0:=hf.lit 3 (.pointer (some ⟨w.heap.size+1,0,none⟩)) za za;obtain⟨s8,a8,n8,c8,b8,h8⟩:=(S.mono hE).at 2 (w.heap.size+1) (IsI (max k1 k2) ((gk:Int))) rfl;have L0:=b8.c0;have L1:=b8.c1;clear hd hf;intro K hK;go_simp;exact hK.out _ _ (Ext.refl _) h8 (FreshIf.no rfl)}) ?_;exact rn0
   intro v W5 e1 hZ _;replace S:=S.mono e1;obtain⟨s17,a17,n17,c17,v0,h17⟩:=(hZ 0 dcx:IsI (max k1 k2) ((gk:Int)) (v 0) W5);simp only[lxE];rw[v0];clear v0;clear hZ;clear e1;obtain⟨s8,a8,n8,c8,b8,_⟩:=S.at 3 (w.heap.size) (IsI (max k1 k2) ((aa:Int))) rfl;have F1:=b8.c0;have F2:=b8.c1;have F3:=b8.f0;have F4:=b8.f1;refine jX λK hK=>?_;go_simp;refine hK _ _ ?_;clear hK K
   clear F1 F2 F3 F4 b8;obtain⟨W5a,hW,S2,G2,_⟩:=S.put 3 (w.heap.size) (IsI (max k1 k2) ((aa:Int))) (IsI (max k1 k2) ((gk:Int))) rfl s17 a17 n17 c17 (IsI.gstb _ _) ⟨_,_,_,_,rfl,h17⟩;rw[<-hW];clear hW S;have S:St w W5a [(g5,IsI (max k1 k2) ((m:Int))),(w.heap.size+1+1,IsI 0 0),(w.heap.size+1,IsI (max k1 k2) ((gk:Int))),(w.heap.size,IsI (max k1 k2) ((gk:Int)))]:=S2;clear S2 G2;clear h17;refine wpList_nil ?_;go_upto_region 6 with fail;refine qI 1 [some 18] [IsI (max k1 k2) ((m:Int))] [] dcx za za za ?_ ?_ ?_ ?_
   ·repeat' (first|exact trivial|exact IsV.stb _|exact IsW.stb _|exact IsWk.stb _ _|exact IsI.stb _ _|exact IsB.stb _|exact IsR.stb _ _|exact IsMag.stb _ _|exact IsPos.stb|apply IsT3.stb|apply IsT2.stb|apply jO)
   ·exact(λ_ h=>by cases h)
   ·refine RgAll.cons (by{ (with_reducible refine RgL.mk zb6 ?_);intro v a w' hE hd hf;have ev0:=hf.lit 5 (.pointer (some ⟨g5,0,none⟩)) za za;obtain⟨s8,a8,n8,c8,b8,h8⟩:=(S.mono hE).at 0 (g5) (IsI (max k1 k2) ((m:Int))) rfl;have L0:=b8.c0;have L1:=b8.c1;clear hd hf;intro K hK;go_simp;exact hK.out _ _ (Ext.refl _) h8 (FreshIf.no rfl)}) ?_;exact rn0
   intro v W6 e1 hZ _;replace S:=S.mono e1;obtain⟨s18,a18,n18,c18,v0,h18⟩:=(hZ 0 dcx:IsI (max k1 k2) ((m:Int)) (v 0) W6);simp only[lxE];rw[v0];clear v0;clear hZ;clear e1;obtain⟨s8,a8,n8,c8,b8,_⟩:=S.at 2 (w.heap.size+1) (IsI (max k1 k2) ((gk:Int))) rfl;have F1:=b8.c0;have F2:=b8.c1;have F3:=b8.f0;have F4:=b8.f1;refine jX λK hK=>?_;go_simp;refine hK _ _ ?_;clear hK K
   clear F1 F2 F3 F4 b8;obtain⟨W6a,hW,S2,G2,_⟩:=S.put 2 (w.heap.size+1) (IsI (max k1 k2) ((gk:Int))) (IsI (max k1 k2) ((m:Int))) rfl s18 a18 n18 c18 (IsI.gstb _ _) ⟨_,_,_,_,rfl,h18⟩;rw[<-hW];clear hW S;have S:St w W6a [(g5,IsI (max k1 k2) ((m:Int))),(w.heap.size+1+1,IsI 0 0),(w.heap.size+1,IsI (max k1 k2) ((m:Int))),(w.heap.size,IsI (max k1 k2) ((gk:Int)))]:=S2;clear S2 G2;clear h18;refine wpList_nil ?_;have S':=hid S.tail;clear S;go_wp2_with fail
   go_roundg m
   case measure=>exact HL.out
   case rel=>exact⟨gk,HN,S'⟩
end
section
open Go Go.RowKit
open Go.Proofs.Tryz
set_option maxRecDepth 100000
set_option maxHeartbeats 4000000
theorem rqNewpos_c{k1 k2:Nat}{z1 z2:Int}{x y:Value}{w:World}(hx:IsI k1 z1 x w)(hy:IsI k2 z2 y w)(l1:k1<=2)(l2:k2<=2)(hz:0<z2)(qn qd:Int)(hn:z1/((Int.gcd z1 z2:Nat):Int)=qn)(hd:z2/((Int.gcd z1 z2:Nat):Int)=qd):
  Calls prog 81 #[x,y] w (Ret w (IsT2 (IsQ (IsI k1 qn) (IsI k2 qd)) (iV 0))):=by
 obtain⟨sg,hsg⟩:∃s,z2.sign=s:=⟨_,rfl⟩;have HSG:=hid hsg;have hs:sg=1:=by rw[<-hsg];exact Int.sign_eq_one_of_pos hz
 have HS0:=hid (show(sg==0)=false by rw[hs];decide);have HS1:=hid (show decide (sg<0)=false by rw[hs];decide);have HG:=hid (show((Int.gcd z1 z2:Nat):Int)≠0 by intro h;have:=((Int.gcd_eq_zero_iff (a:=z1) (b:=z2)).1 (by omega)).2;omega);have HN:=hid hn;have HD:=hid hd;clear hz hn hd hsg hs;obtain⟨s1,a1,n1,c1,rfl,h1⟩:=hx;have h1:IsI _ _ _ w:=⟨_,_,_,_,rfl,h1⟩;obtain⟨s2,a2,n2,c2,rfl,h2⟩:=hy;have h2:IsI _ _ _ w:=⟨_,_,_,_,rfl,h2⟩;obtain⟨W,hW,S⟩:∃W,W=((w.alloc (.cells #[.bool s1,.slice a1 n1 c1] 28)).alloc (.cells #[.bool s2,.slice a2 n2 c2] 28)).alloc (.cells #[.bool false,.slice none 0 0,.bool false,.slice none 0 0] 45)/\Sto w W [((w.heap.size+1+1,1),IsI 0 0),((w.heap.size+1+1,0),IsI 0 0),((w.heap.size+1,0),IsI k2 z2),((w.heap.size,0),IsI k1 z1)]:=zd;clear h1 h2;go_enter func81,ntmps81;go_upto_region 1 with fail;rw[<-hW];clear hW;refine rgt S 3 (dR 7 3) [IsI k2 z2,iV sg,IsV (.bool false)] ?_ ?_
 ·refine Rc yb ?_;refine Rc (cl1 (en func91) (qA (fP:=IsI k2 z2) 0 7) (λx0 w' hE d0=>jJ (RSign_f d0) λ_ _ h=>h.int (HSG.out))) ?_;refine Rc (bn (r:=.bool false) (qC 1 8) qE (hr:=λw=>by have hx9:=HS0.out;go_simp)) ?_;exact rn0
 intro v W1 S hZ;simp only[lxE,Nat.reduceAdd];rw[show v 2=.bool false from hZ 2 dcx];clear hZ;go_upto_region 3 with fail;have hl:=hid S.lt;have hw:=S.ext.size;refine rgs 4 [some 11,some 12,some 13,some 6] [IsI k1 z1,IsI k2 z2,IsI (max k1 k2) (((Int.gcd z1 z2:Nat):Int)),IsBo W1 1] [3] ?_ ?_
 ·refine Rc zaj ?_;refine Rc yb ?_;refine Rc (cl2 (en func104) (qA (fP:=IsI k1 z1) 0 11) (qA (fP:=IsI k2 z2) 1 12) (λx0 x1 w' hE d0 d1=>RGcd_f d0 d1 (by omega) (by omega))) ?_;refine Rc (al al_Int) ?_;exact rn0
 intro v W3 e1 hZ _;replace S:=S.mono e1;have h13:=hZ 2 dcx;obtain⟨g6,v3,q2,b1,_⟩:=(hZ 3 dcx:IsBo W1 1 (v 3) W3);replace S:=S.addN 1 (ApartO.old hl.out q2) (jQ hw q2) b1;simp only[newF,List.cons_append,List.nil_append]at S;simp only[lxE,Nat.reduceAdd];rw[v3];clear b1 hl hw v3 hZ e1
 try simp only[dxE]
 (with_reducible refine stL ?_ zb6);intro KK hKK;refine stI S 0 (g6) 0 h13 st_Int (λW3a S2 G2=>hKK _ _ ?_) rfl
 replace S:=S2;clear S2 G2 hKK KK h13;simp only[u0x]at S;refine jL ?_;go_upto_region 4 with fail;refine rgt S 3 (dR 14 3) [IsI k2 z2,iV sg,IsV (.bool false)] ?_ ?_
 ·refine Rc (ldI S 3 (w.heap.size+1) 0 (qB 3) qF) ?_;refine Rc (cl1 (en func91) (qA (fP:=IsI k2 z2) 0 14) (λx0 w' hE d0=>jJ (RSign_f d0) λ_ _ h=>h.int (HSG.out))) ?_;refine Rc (bn (r:=.bool false) (qC 1 15) qE (hr:=λw=>by have hx9:=HS1.out;go_simp)) ?_;exact rn0
 intro v W4 S hZ;simp only[lxE,Nat.reduceAdd];rw[show v 2=.bool false from hZ 2 dcx];clear hZ;go_upto_region 6 with fail;refine rg 7 (dR 19 7) [IsI k1 z1,IsI (max k1 k2) (((Int.gcd z1 z2:Nat):Int)),IsI k1 qn,IsI k2 z2,IsI (max k1 k2) (((Int.gcd z1 z2:Nat):Int)),IsI k2 qd,IsQ (IsI k1 qn) (IsI k2 qd)] [] 2 ?_ ?_
 ·refine Rc (ldI S 4 (w.heap.size) 0 (qB 2) qF) ?_;refine Rc (ldI S 0 (g6) 0 (qB 6) qF) ?_;refine Rc (cl2 (en func105) (qA (fP:=IsI k1 z1) 0 19) (qA (fP:=IsI (max k1 k2) (((Int.gcd z1 z2:Nat):Int))) 1 20) (λx0 x1 w' hE d0 d1=>jJ (RDiv_f d0 d1 (by omega) (by omega) HG.out) λ_ _ h=>h.eqz HN.out)) ?_;refine Rc (ldI S 3 (w.heap.size+1) 0 (qB 3) qF) ?_;refine Rc (ldI S 0 (g6) 0 (qB 6) qF) ?_;refine Rc (cl2 (en func105) (qA (fP:=IsI k2 z2) 3 22) (qA (fP:=IsI (max k1 k2) (((Int.gcd z1 z2:Nat):Int))) 4 23) (λx0 x1 w' hE d0 d1=>jJ (RDiv_f d0 d1 (by omega) (by omega) HG.out) λ_ _ h=>h.eqz HD.out)) ?_;refine Rc (bq (qC 2 21) (qC 5 24) bd_Rat) ?_;exact rn0
 intro v W6 e1 hZ _;replace S:=S.mono e1;have h25:=hZ 6 dcx;simp only[lxE,Nat.reduceAdd];clear hZ e1;refine stA 7 (h:=λKK hKK=>stQ S 2 1 (w.heap.size+1+1) 0 h25 (IsI.gstb _ _) (IsI.gstb _ _) st_Rat (λW6a S2 G2=>hKK _ _ ?_) rfl rfl);replace S:=S2;clear S2 G2 hKK KK h25;simp only[u0x,u1x]at S;refine wpAny_ready (rs:= [8]) za (by simp) (AllReady.cons rfl (λK hK=>?_) AllReady.nil);go_simp;refine hK _ _ ?_;clear hK K;refine jR za ?_ _;go_wp2_with fail;obtain⟨s90x,a90x,n90x,c90x,b90x,h90x⟩:=S.at 2 (w.heap.size+1+1) 0 (IsI k1 qn) rfl;have L90xa:World.cell? W6a ⟨w.heap.size+1+1,0,none⟩=some (.bool s90x):=b90x.c0;have L90xb:World.cell? W6a ⟨w.heap.size+1+1,1,none⟩=some (.slice a90x n90x c90x):=b90x.c1;obtain⟨s90y,a90y,n90y,c90y,b90y,h90y⟩:=S.at 1 (w.heap.size+1+1) 1 (IsI k2 qd) rfl;have L90ya:World.cell? W6a ⟨w.heap.size+1+1,2,none⟩=some (.bool s90y):=b90y.c0;have L90yb:World.cell? W6a ⟨w.heap.size+1+1,3,none⟩=some (.slice a90y n90y c90y):=b90y.c1;exact jK (v:=.tuple #[.agg #[.bool s90x,.slice a90x n90x c90x,.bool s90y,.slice a90y n90y c90y],.int .i64 0]) (by simp[results,results81,go_sem,L90xa,L90xb,L90ya,L90yb]) rfl (⟨_,rfl,S.ext,_,_,rfl,⟨_,_,_,_,_,_,_,_,rfl,h90x,h90y⟩,rfl⟩)
theorem rqNew_f{k1 k2:Nat}{z1 z2:Int}{x y:Value}{w:World}(hx:IsI k1 z1 x w)(hy:IsI k2 z2 y w)(l1:k1<=2)(l2:k2<=2)(hz:0<z2):
  Calls prog 81 #[x,y] w (Ret w (IsT2 (IsRat (max k1 k2) (Rat.divInt z1 z2)) (iV 0))):=by
 have key:Calls prog 81 #[x,y] w (Ret w (IsT2 (IsQ (IsI k1 (Rat.divInt z1 z2).num) (IsI k2 ((Rat.divInt z1 z2).den:Int))) (iV 0))):=by
  exact rqNewpos_c hx hy l1 l2 hz _ _ (rat_num_pos z1 z2 hz) (rat_den_pos z1 z2 hz)
 exact jJ key λ_ _ h=>h.mono λ_ _ ⟨u,v,e,⟨s,a,n,c,s',a',n',c',h1,h2,h3⟩,h4⟩=>⟨u,v,e,⟨s,a,n,c,s',a',n',c',h1,h2.mono (by omega),h3.mono (by omega)⟩,h4⟩
theorem rqover_f{k1 k2:Nat}{z1 z2:Int}{x y:Value}{w:World}(hx:IsI k1 z1 x w)(hy:IsI k2 z2 y w)(l1:k1<=2)(l2:k2<=2)(hz:0<z2):
  Calls prog 65 #[x,y] w (Ret w (IsRat (max k1 k2) (Rat.divInt z1 z2))):=by
 have HZ:=hid hz;clear hz;obtain⟨s1,a1,n1,c1,rfl,h1⟩:=hx;have h1:IsI _ _ _ w:=⟨_,_,_,_,rfl,h1⟩;obtain⟨s2,a2,n2,c2,rfl,h2⟩:=hy;have h2:IsI _ _ _ w:=⟨_,_,_,_,rfl,h2⟩;obtain⟨W,hW,S⟩:∃W,W=((w.alloc (.cells #[.bool s1,.slice a1 n1 c1] 28)).alloc (.cells #[.bool s2,.slice a2 n2 c2] 28)).alloc (.cells #[.bool false,.slice none 0 0,.bool false,.slice none 0 0] 45)/\Sto w W [((w.heap.size+1+1,1),IsI 0 0),((w.heap.size+1+1,0),IsI 0 0),((w.heap.size+1,0),IsI k2 z2),((w.heap.size,0),IsI k1 z1)]:=zd;clear h1 h2;go_enter func65,ntmps65;go_upto_region 1 with fail;rw[<-hW];clear hW;have hl:=hid S.lt;have hw:=S.ext.size;refine rgs 7 [some 8,some 9,some 10,some 7,some 11,some 12,some 5] [IsI k1 z1,IsI k2 z2,IsT2 (IsQ (IsI (max k1 k2) ((Rat.divInt z1 z2).num)) (IsI (max k1 k2) (((Rat.divInt z1 z2).den:Int)))) (iV 0),IsT2 (IsQ (IsI (max k1 k2) ((Rat.divInt z1 z2).num)) (IsI (max k1 k2) (((Rat.divInt z1 z2).den:Int)))) (iV 0),IsQ (IsI (max k1 k2) ((Rat.divInt z1 z2).num)) (IsI (max k1 k2) (((Rat.divInt z1 z2).den:Int))),iV 0,IsBo W 2] [6] ?_ ?_
 ·refine Rc zaj ?_;refine Rc yb ?_;refine Rc (cl2 (en func81) (qA (fP:=IsI k1 z1) 0 8) (qA (fP:=IsI k2 z2) 1 9) (λx0 x1 w' hE d0 d1=>rqNew_f d0 d1 (by omega) (by omega) HZ.out)) ?_;refine Rc (mv (qA 2 10)) ?_;refine Rc (ex (qC 3 7) t20) ?_;refine Rc (ex (qC 3 7) t21) ?_;refine Rc (al al_Rat) ?_;exact rn0
 intro v W1 e1 hZ _;replace S:=S.mono e1;have h11:=hZ 4 dcx;have v5:v 5=.int .i64 0:=hZ 5 dcx;obtain⟨g5,v6,q2,b1,_⟩:=(hZ 6 dcx:IsBo W 2 (v 6) W1);replace S:=S.addN 2 (ApartO.old hl.out q2) (jQ hw q2) b1;simp only[newF,List.cons_append,List.nil_append]at S;simp only[lxE,Nat.reduceAdd];rw[v5,v6];clear b1 hl hw v5 v6 hZ e1
 try simp only[dxE]
 (with_reducible refine stL ?_ zb6);intro KK hKK;refine stQ S 1 0 (g5) 0 h11 (IsI.gstb _ _) (IsI.gstb _ _) st_Rat (λW1a S2 G2=>hKK _ _ ?_) rfl rfl
 replace S:=S2;clear S2 G2 hKK KK h11;simp only[u0x,u1x]at S;refine jX λK hK=>?_;go_simp;refine hK _ _ ?_;clear hK K
 refine jL ?_;go_upto_region 2 with fail;refine rgs 1 [some 13] [IsQ (IsI (max k1 k2) ((Rat.divInt z1 z2).num)) (IsI (max k1 k2) (((Rat.divInt z1 z2).den:Int)))] [] ?_ ?_
 ·refine Rc (ldQ S 1 0 (g5) 0 (qB 5) ld_Rat rfl rfl) ?_;exact rn0
 intro v W2 e1 hZ _;replace S:=S.mono e1;have h13:=hZ 0 dcx;simp only[lxE];clear hZ e1
 try simp only[dxE]
 (with_reducible refine stL ?_ zb6);intro KK hKK;refine stQ S 3 2 (w.heap.size+1+1) 0 h13 (IsI.gstb _ _) (IsI.gstb _ _) st_Rat (λW2a S2 G2=>hKK _ _ ?_) rfl rfl
 replace S:=S2;clear S2 G2 hKK KK h13;simp only[u0x,u1x]at S;refine jL ?_;go_wp2_with fail;obtain⟨s90x,a90x,n90x,c90x,b90x,h90x⟩:=S.at 3 (w.heap.size+1+1) 0 (IsI (max k1 k2) ((Rat.divInt z1 z2).num)) rfl;have L90xa:World.cell? W2a ⟨w.heap.size+1+1,0,none⟩=some (.bool s90x):=b90x.c0;have L90xb:World.cell? W2a ⟨w.heap.size+1+1,1,none⟩=some (.slice a90x n90x c90x):=b90x.c1;obtain⟨s90y,a90y,n90y,c90y,b90y,h90y⟩:=S.at 2 (w.heap.size+1+1) 1 (IsI (max k1 k2) (((Rat.divInt z1 z2).den:Int))) rfl;have L90ya:World.cell? W2a ⟨w.heap.size+1+1,2,none⟩=some (.bool s90y):=b90y.c0;have L90yb:World.cell? W2a ⟨w.heap.size+1+1,3,none⟩=some (.slice a90y n90y c90y):=b90y.c1;exact jK (v:=.agg #[.bool s90x,.slice a90x n90x c90x,.bool s90y,.slice a90y n90y c90y]) (by simp[results,results65,go_sem,L90xa,L90xb,L90ya,L90yb]) rfl (⟨_,rfl,S.ext,⟨_,_,_,_,_,_,_,_,rfl,h90x,h90y⟩⟩)
end
section
open Go Go.RowKit
open Go.Proofs.Tryz
theorem zv{P:Prop}(h:P:=by exact mv (qB 0)):P:=h
theorem xb{P:Prop}(h:P:=by exact mv (qB 1)):P:=h
set_option maxRecDepth 100000
set_option maxHeartbeats 4000000
theorem rqSame_t{k1 k2:Nat}{u1 v1 u2 v2:Int}{x y:Value}{w:World}(hx:IsQ (IsI k1 u1) (IsI k1 v1) x w)(hy:IsQ (IsI k2 u2) (IsI k2 v2) y w)(l1:k1<=1048576)(hu:u1=u2)(hv:v1=v2):Calls prog 19 #[x,y] w (Ret w (IsV (.bool true))):=by
 have HU:=hid hu;have HV:=hid hv;clear hu hv;obtain⟨s1x,a1x,n1x,c1x,s1y,a1y,n1y,c1y,rfl,h1x,h1y⟩:=hx;obtain⟨s2x,a2x,n2x,c2x,s2y,a2y,n2y,c2y,rfl,h2x,h2y⟩:=hy;obtain⟨W,hW,S⟩:∃W,W=(w.alloc (.cells #[.bool s1x,.slice a1x n1x c1x,.bool s1y,.slice a1y n1y c1y] 45)).alloc (.cells #[.bool s2x,.slice a2x n2x c2x,.bool s2y,.slice a2y n2y c2y] 45)/\Sto w W [((w.heap.size+1,1),IsI k2 v2),((w.heap.size+1,0),IsI k2 u2),((w.heap.size,1),IsI k1 v1),((w.heap.size,0),IsI k1 u1)]:=⟨_,rfl,(((Sto.start w).new2 (w.heap.size) (by simp) s1x s1y a1x a1y n1x c1x n1y c1y 45 (IsI k1 u1) (IsI k1 v1) (IsI.gstb _ _) (h1x) (IsI.gstb _ _) (h1y)).new2 (w.heap.size+1) (by simp) s2x s2y a2x a2y n2x c2x n2y c2y 45 (IsI k2 u2) (IsI k2 v2) (IsI.gstb _ _) (h2x.ext ((Ext.refl _).alloc _)) (IsI.gstb _ _) (h2y.ext ((Ext.refl _).alloc _)))⟩;clear h1x h1y h2x h2y;go_enter func19,ntmps19;go_upto_region 1 with fail;rw[<-hW];clear hW;refine rgt S 13 [some 5,some 6,some 7,some 8,some 9,some 10,some 11,some 12,some 13,some 14,some 15,some 16,some 4] [IsP (w.heap.size) 0,IsI k1 u1,IsP (w.heap.size+1) 0,IsI k2 u2,IsV (.bool true),IsV (.bool true),IsP (w.heap.size) 2,IsI k1 v1,IsP (w.heap.size+1) 2,IsI k2 v2,IsV (.bool true),IsV (.bool true),IsV (.bool true)] ?_ ?_
 ·refine Rc (fa (fa_Rat0 (w.heap.size) 0) (qB 2)) ?_;refine Rc (ldI S 3 (w.heap.size) 0 (qA 0 5) qF) ?_;refine Rc (fa (fa_Rat0 (w.heap.size+1) 0) (qB 3)) ?_;refine Rc (ldI S 1 (w.heap.size+1) 0 (qA 2 7) qF) ?_;refine Rc (cl2 (en func39) (qA (fP:=IsI k1 u1) 1 6) (qA (fP:=IsI k2 u2) 3 8) (λx0 x1 w' hE d0 d1=>Same_t d0 d1 HU.out (by omega))) ?_;refine Rc (mv (qA 4 9)) ?_;refine RcG 5 10 true (fa (fa_Rat1 (w.heap.size) 0) (qB 2)) ?_;refine RcG 5 10 true (ldI S 2 (w.heap.size) 1 (qA 6 11) qF) ?_;refine RcG 5 10 true (fa (fa_Rat1 (w.heap.size+1) 0) (qB 3)) ?_;refine RcG 5 10 true (ldI S 0 (w.heap.size+1) 1 (qA 8 13) qF) ?_;refine RcG 5 10 true (cl2 (en func39) (qA (fP:=IsI k1 v1) 7 12) (qA (fP:=IsI k2 v2) 9 14) (λx0 x1 w' hE d0 d1=>Same_t d0 d1 HV.out (by omega))) ?_;refine Rc (pk (qC 5 10) (qA 10 15)) ?_;refine Rc (mv (qA 11 16)) ?_;exact rn0
 intro v W1 S hZ;simp only[lxE,Nat.reduceAdd];rw[show v 12=.bool true from hZ 12 dcx];clear hZ;go_wp2_with fail;exact jK (v:=.bool true) (by simp[results,results19,go_sem]) rfl (⟨_,rfl,S.ext,rfl⟩)
theorem rqSame_eq{k1 k2:Nat}{p q:Rat}{x y:Value}{w:World}(hx:IsRat k1 p x w)(hy:IsRat k2 q y w)(l1:k1<=1048576)(h:p=q):Calls prog 19 #[x,y] w (Ret w (IsV (.bool true))):=
 rqSame_t hx hy l1 (by rw[h]) (by rw[h])
theorem rqOf_f(w:World)(n d:Int)(hn: -9223372036854775808<=n/\n<=9223372036854775807)(hd: -9223372036854775808<=d/\d<=9223372036854775807)(hz:0<d):Calls prog 47 #[.int .i64 n,.int .i64 d] w (Ret w (IsRat 2 (Rat.divInt n d))):=by
 have HN:=hid hn;have HD:=hid hd;have HZ:=hid hz;clear hn hd hz;obtain⟨W,hW,S⟩:∃W,W=w.alloc (.cells #[.bool false,.slice none 0 0,.bool false,.slice none 0 0] 45)/\Sto w W [((w.heap.size,1),IsI 0 0),((w.heap.size,0),IsI 0 0)]:=⟨_,rfl,((Sto.start w).new2 (w.heap.size) (by simp) false false none none 0 0 0 0 45 (IsI 0 0) (IsI 0 0) (IsI.gstb _ _) (IsI.nil _ _) (IsI.gstb _ _) (IsI.nil _ _))⟩;go_enter func47,ntmps47;go_upto_region 1 with fail;rw[<-hW];clear hW;refine rgs 5 (dR 5 5) [iV n,IsI 2 n,iV d,IsI 2 d,IsQ (IsI (max 2 2) ((Rat.divInt n d).num)) (IsI (max 2 2) (((Rat.divInt n d).den:Int)))] [] ?_ ?_
 ·refine Rc zv ?_;refine Rc (cl1 (en func26) (qA (fP:=iV n) 0 5) (λx0 w' hE d0=>by{obtain rfl:x0=.int .i64 n:=d0;exact ROf_f _ n HN.out.1 HN.out.2})) ?_;refine Rc xb ?_;refine Rc (cl1 (en func26) (qA (fP:=iV d) 2 7) (λx0 w' hE d0=>by{obtain rfl:x0=.int .i64 d:=d0;exact ROf_f _ d HD.out.1 HD.out.2})) ?_;refine Rc (cl2 (en func65) (qA (fP:=IsI 2 n) 1 6) (qA (fP:=IsI 2 d) 3 8) (λx0 x1 w' hE d0 d1=>rqover_f d0 d1 dcx dcx HZ.out)) ?_;exact rn0
 intro v W1 e1 hZ _;replace S:=S.mono e1;have h9:=hZ 4 dcx;simp only[lxE,Nat.reduceAdd];clear hZ e1
 try simp only[dxE]
 (with_reducible refine stL ?_ zb6);intro KK hKK;refine stQ S 1 0 (w.heap.size) 0 h9 (IsI.gstb _ _) (IsI.gstb _ _) st_Rat (λW1a S2 G2=>hKK _ _ ?_) rfl rfl
 replace S:=S2;clear S2 G2 hKK KK h9;simp only[u0x,u1x]at S;refine jL ?_;go_wp2_with fail;obtain⟨s90x,a90x,n90x,c90x,b90x,h90x⟩:=S.at 1 (w.heap.size) 0 (IsI (max 2 2) ((Rat.divInt n d).num)) rfl;have L90xa:World.cell? W1a ⟨w.heap.size,0,none⟩=some (.bool s90x):=b90x.c0;have L90xb:World.cell? W1a ⟨w.heap.size,1,none⟩=some (.slice a90x n90x c90x):=b90x.c1;obtain⟨s90y,a90y,n90y,c90y,b90y,h90y⟩:=S.at 0 (w.heap.size) 1 (IsI (max 2 2) (((Rat.divInt n d).den:Int))) rfl;have L90ya:World.cell? W1a ⟨w.heap.size,2,none⟩=some (.bool s90y):=b90y.c0;have L90yb:World.cell? W1a ⟨w.heap.size,3,none⟩=some (.slice a90y n90y c90y):=b90y.c1;exact jK (v:=.agg #[.bool s90x,.slice a90x n90x c90x,.bool s90y,.slice a90y n90y c90y]) (by simp[results,results47,go_sem,L90xa,L90xb,L90ya,L90yb]) rfl (⟨_,rfl,S.ext,⟨_,_,_,_,_,_,_,_,rfl,h90x,h90y⟩⟩)
end
section
open Go Go.RowKit
theorem Ext.heap'{w w':World}(e:Ext w w'){g:Nat}{o:Obj}(h:w.heap[g]? =some o):w'.heap[g]? =some o:=(e.block g (Array.getElem?_eq_some_iff.1 h).1).trans h
def Rwg(e k base:Nat)(w:World)(v:Value)(n:Nat)(xs:List Value):Prop:=w.ownsRow base e k v n xs
theorem Rwg.nil(e k base:Nat)(w:World):Rwg e k base w (.slice none 0 0) 0 []:=⟨by simp,.inl ⟨rfl,rfl⟩⟩
theorem Rwg.ext{e k base n:Nat}{w w':World}{v:Value}{xs:List Value}(h:Rwg e k base w v n xs)(E:Ext w w'):Rwg e k base w' v n xs:=by
 obtain⟨h1,h2| ⟨g,cap,cur,hv,hb,hg,hr⟩⟩:=h
 ·exact⟨h1,.inl h2⟩
 ·exact⟨h1,.inr ⟨g,cap,cur,hv,hb,E.heap' hg,hr⟩⟩
theorem Rwg.shape{e k base n:Nat}{w:World}{v:Value}{xs:List Value}(h:Rwg e k base w v n xs):∃ao cap,v=.slice ao n cap/\n<=cap/\cap<=9223372036854775807/\xs.length=n*k/\
  (n≠0->∃g,ao=some ⟨g,0,none⟩/\base<=g/\g<w.heap.size/\∀j u,xs[j]? =some u->w.cell? ⟨g,j,none⟩=some u):=by
 obtain⟨h1,⟨h2,h3⟩| ⟨g,cap,cur,hv,hb,hg,hn,hc,hsz,ht⟩⟩:=h
 ·subst h3;exact⟨none,0,h2,jP _,by decide,h1,λh=>absurd rfl h⟩
 ·refine⟨_,cap,hv,hn,hc,h1,λ_=>⟨g,rfl,hb,(Array.getElem?_eq_some_iff.1 hg).1,λj u hj=>?_⟩⟩;have hjl:j<xs.length:=(List.getElem?_eq_some_iff.1 hj).1;simp only[World.cell?];rw[hg];show cur[j]? =some u;rw[<-ht,List.getElem?_take,if_pos (by omega)]at hj
  simpa using hj
theorem wpl_rwg{P:Program}{w:World}{ops:Array Oper}{rest:List Oper}{o:Oper}{a:Act}{Q:Exit->Act->World->Prop}(hgd:o.guard=none)(s x:Operand)(t:TypeId)
  (ho:o.op=.call {callee:=.builtin .append,args:= #[s,x],argTypes:= #[t,t]}) (base e:Nat) (z:Value) (k bytes:Nat) (ht:P.underlying t=some (.slice e)) (hinfo:(P.info? e).map (λi=>(i.zero,i.size,i.bytes))=some (some z,k,bytes))
  (hzs:z.cells.size=k) (hk:0<k) (v:Value) (n:Nat) (xs:List Value) (hs:a.eval s=v) (hown:Rwg e k base w v n xs) (g m c:Nat) (news:List Value) (hx:a.eval x=.slice (some ⟨g,0,none⟩) m c) (hl:news.length=m*k)
  (hnews:∀j u,news[j]? =some u->w.cell? ⟨g,j,none⟩=some u) (h1:∀u∈news,u.oneCell'=true) (h63:n+m<=140737488355328) (hbytes:(n+m)*bytes<=140737488355328) (hbase:base<=w.heap.size)
  (h:∀v' w',Rwg e k base w' v' (n+m) (xs++news)->w.grownBy w' v.ownBlock->Below base w w'->wpList P ops Q rest (a.put o.dst v') w'):
  wpList P ops Q (o ::rest) a w:=by
 obtain⟨i,hi,hz0,hz1,hz2⟩:=info_parts hinfo;refine wpList_append_own_at w hgd s x t ho base e i z k bytes ht hi hz0 hz1 hz2 hzs hk v n xs hs hown ⟨g,0,none⟩ m c news hx hl (λj u hj=>by cases j <;> simpa [Addr.add]using hnews _ u hj) h1 yl hbytes hbase ?_;intro v' w' h2 h3 _ _;refine h v' w' h2 h3 ((jS base w).grown h3 hbase λb hb=>?_);obtain⟨_,⟨hv,_⟩| ⟨g,cap,cur,hv,hb2,_⟩⟩:=hown
 ·rw[hv]at hb;cases hb
 ·rw[hv]at hb;cases hb;exact hb2
theorem cells_new(w:World)(cs:Array Value)(t:Nat):∀j u,cs.toList[j]? =some u->(w.alloc (.cells cs t)).cell? ⟨w.heap.size,j,none⟩=some u:=by
 intro j u hj;simp only[World.cell?];have:(w.alloc (.cells cs t)).heap[w.heap.size]? =some (.cells cs t):=by show(w.heap.push _)[w.heap.size]? =_;simp
 rw[this];show cs[j]? =some u
 simpa using hj
theorem cells_newE(w:World)(cs:Array Value)(t g:Nat)(hg:w.heap.size=g):∀j u,cs.toList[j]? =some u->(w.alloc (.cells cs t)).cell? ⟨g,j,none⟩=some u:=by subst hg;exact cells_new w cs t
def xJ:World->Nat->Nat->List Value->World
 |W,_,_, []=>W
 |W,b,j,v ::vs=>xJ (W.setCell ⟨b,j,none⟩ v) b (j+1) vs
theorem setL_other:∀(vs:List Value) (W:World) (b j:Nat) (p:Addr),(p.block≠b\/(p=⟨b,p.off,none⟩/\p.off<j))->World.cell? (xJ W b j vs) p=World.cell? W p
 | [],_,_,_,_,_=>rfl
 | v ::vs,W,b,j,p,h=>by
  unfold xJ;rw[setL_other vs _ b (j+1) p (h.imp id λ⟨h1,h2⟩=>⟨h1,by omega⟩)];refine World.cell?_setCell_other _ _ _ _ ?_;rintro rfl;rcases h with h| ⟨_,h⟩
  ·exact h rfl
  ·exact Nat.lt_irrefl _ h
theorem setL_frozen:∀(vs:List Value) (W:World) (b j:Nat) (p:Addr),World.frozen? (xJ W b j vs) p=World.frozen? W p
 | [],_,_,_,_=>rfl
 | v ::vs,W,b,j,p=>by
  unfold xJ;rw[setL_frozen vs,World.frozen?_setCell]
theorem setL_cell:∀(vs:List Value) (W:World) (b j:Nat),(∀i,i<vs.length->(World.cell? W ⟨b,j+i,none⟩).isSome)->∀(i:Nat) (v:Value),vs[i]? =some v->World.cell? (xJ W b j vs) ⟨b,j+i,none⟩=some v
 | [],_,_,_,_,i,v,h=>by simp at h
 | u ::vs,W,b,j,hs,i,v,h=>by
  unfold xJ;cases i with
  | zero=>
   simp at h;subst h;rw[setL_other vs _ b (j+1) ⟨b,j+0,none⟩ (.inr ⟨rfl,by simp⟩)];exact World.cell?_setCell_same' _ _ _ (hs 0 (by simp))
  | succ i=>
   simp at h;have:=setL_cell vs (W.setCell ⟨b,j,none⟩ u) b (j+1) (λk hk=>?_) i v h
   ·rw[show j+(i+1)=j+1+i by omega];exact this
   ·rw[World.cell?_setCell_other _ _ _ _ (by intro e;injection e with e1 e2;omega)];have:=hs (k+1) zaf
    rwa [show j+(k+1)=j+1+k by omega]at this
theorem setL_below:∀(vs:List Value) (W w:World) (b j base:Nat),Below base w W->base<=b->Below base w (xJ W b j vs)
 | [],_,_,_,_,_,h,_=>h
 | v ::vs,W,w,b,j,base,h,hb=>by
  unfold xJ;exact setL_below vs _ w b (j+1) base (h.setCell (p:=⟨b,j,none⟩) hb v) hb
theorem setL_gr:∀(vs:List Value) (W:World) (b j:Nat),(∀i,i<vs.length->∃u,World.cell? W ⟨b,j+i,none⟩=some u/\NoWord u)->Gr W (xJ W b j vs)
 | [],W,_,_,_=>Gr.refl W
 | v ::vs,W,b,j,h=>by
  unfold xJ;obtain⟨u,hu,hn⟩:=h 0 (by simp);refine((Gr.refl W).set (p:=⟨b,j,none⟩) hu hn v).trans (setL_gr vs _ b (j+1) λi hi=>?_);obtain⟨u,hu,hn⟩:=h (i+1) zaf;refine⟨u,?_,hn⟩;rw[World.cell?_setCell_other _ _ _ _ (by intro e;injection e with e1 e2;omega),show j+1+i=j+(i+1)by omega];exact hu
end
section
open Go Go.RowKit
open Go.Proofs.Tryz
structure Bk (W:World) (g:Nat) (vs:List Value):Prop where
 c:∀j v,vs[j]? =some v->World.cell? W ⟨g,j,none⟩=some v
 f:∀j,World.frozen? W ⟨g,j,none⟩=false
 lt:g<W.heap.size
theorem Bk.ext{W W':World}{g:Nat}{vs:List Value}(h:Bk W g vs)(E:Ext W W'):Bk W' g vs:=⟨λj v hj=>E.cell (h.c j v hj),λj=>(E.frozen (p:=⟨g,j,none⟩) h.lt).trans (h.f j),Nat.lt_of_lt_of_le h.lt E.size⟩
theorem Bk.new(w:World)(cs:Array Value)(T:TypeId):Bk (w.alloc (.cells cs T)) w.heap.size cs.toList:=
 ⟨λj v hj=>cells_new w cs T j v hj,λj=>by simp,by simp⟩
theorem Bk.newE(w:World)(g:Nat)(hg:w.heap.size=g)(cs:Array Value)(T:TypeId):Bk (w.alloc (.cells cs T)) g cs.toList:=by subst hg;exact Bk.new w cs T
theorem Bk.put{W w:World}{g:Nat}{vs us:List Value}(B:Bk W g vs)(hl:us.length=vs.length)(hn:∀v∈vs,NoWord v)(E:Ext w W)(hg:w.heap.size<=g):
  ∃W',xJ W g 0 us=W'/\Bk W' g us/\Ext w W'/\Gr W W'/\(∀g' vs',g'≠g->Bk W g' vs'->Bk W' g' vs')/\W'.heap.size=W.heap.size:=by
 have hc:∀i,i<us.length->∃u,World.cell? W ⟨g,0+i,none⟩=some u/\NoWord u:=λi hi=>by
  have:i<vs.length:=by omega
  rw[Nat.zero_add];exact⟨vs[i],B.c i _ (List.getElem?_eq_getElem this),hn _ (List.getElem_mem this)⟩
 have hsz:(xJ W g 0 us).heap.size=W.heap.size:=by
  have:∀(us:List Value) (W:World) (j:Nat),(xJ W g j us).heap.size=W.heap.size:=by
   intro us
   induction us with
   |nil=>intro W j;rfl
   |cons u us ih=>intro W j;unfold xJ;rw[ih];simp[World.setCell]
  exact this us W 0
 refine⟨_,rfl,⟨λj v hj=>?_,λj=>?_,by rw[hsz];exact B.lt⟩,setL_below us W w g 0 _ E hg,setL_gr us W g 0 hc,λg' vs' hne B'=>⟨λj v hj=>?_,λj=>?_,by rw[hsz];exact B'.lt⟩,hsz⟩
 ·have:=setL_cell us W g 0 (λi hi=>by obtain⟨u,hu,_⟩:=hc i hi;rw[hu];rfl) j v hj
  rwa [Nat.zero_add]at this
 ·rw[setL_frozen];exact B.f j
 ·rw[setL_other us W g 0 ⟨g',j,none⟩ (.inl hne)];exact B'.c j v hj
 ·rw[setL_frozen];exact B'.f j
theorem Bk.set1{W w:World}{g:Nat}{vs:List Value}(B:Bk W g vs)(j:Nat)(hj:j<vs.length)(u:Value)(hn:NoWord (vs[j]))(E:Ext w W)(hg:w.heap.size<=g):
  ∃W',W.setCell ⟨g,j,none⟩ u=W'/\Bk W' g (vs.set j u)/\Ext w W'/\Gr W W'/\(∀g' vs',g'≠g->Bk W g' vs'->Bk W' g' vs')/\W'.heap.size=W.heap.size:=by
 have hc:=B.c j _ (List.getElem?_eq_getElem hj);refine⟨_,rfl,⟨λi v hi=>?_,λi=>?_,by simp[World.setCell];exact B.lt⟩,E.set (p:=⟨g,j,none⟩) hg u,(Gr.refl W).set hc hn u,λg' vs' hne B'=>⟨λi v hi=>?_,λi=>?_,by simp[World.setCell];exact B'.lt⟩,by simp[World.setCell]⟩
 ·by_cases hij:j=i
  ·subst hij;rw[List.getElem?_set_self hj]at hi;rw[World.cell?_setCell_same _ _ _ hc,hi]
  ·rw[List.getElem?_set_ne hij]at hi;rw[World.cell?_setCell_other _ _ _ _ (by intro e;injection e with e1 e2;exact hij e2)];exact B.c i v hi
 ·rw[World.frozen?_setCell];exact B.f i
 ·rw[World.cell?_setCell_other _ _ _ _ (by intro e;injection e with e1 e2;exact hne e1.symm)];exact B'.c i v hi
 ·rw[World.frozen?_setCell];exact B'.f i
def IsKn(k:Nat)(lo hi:Int)(f:Bool):Value->World->Prop:=λx w=>∃s a n c s' a' n' c',x=.agg #[.bool s,.slice a n c,.bool s',.slice a' n' c',.bool f]/\IsI k lo (.agg #[.bool s,.slice a n c]) w/\IsI k hi (.agg #[.bool s',.slice a' n' c']) w
theorem IsKn.gstb(k:Nat)(lo hi:Int)(f:Bool):GStb (IsKn k lo hi f):=λ_ _ _ e ⟨s,a,n,c,s',a',n',c',h1,h2,h3⟩=>⟨s,a,n,c,s',a',n',c',h1,IsI.gstb _ _ _ _ _ e h2,IsI.gstb _ _ _ _ _ e h3⟩
theorem IsKn.stb(k:Nat)(lo hi:Int)(f:Bool):Stb (IsKn k lo hi f):=λ_ _ _ e h=>IsKn.gstb k lo hi f _ _ _ e.gr h
instance (k:Nat) (lo hi:Int) (f:Bool):StbC (IsKn k lo hi f):=⟨IsKn.stb k lo hi f⟩
theorem IsKn.mono{k k':Nat}{lo hi:Int}{f:Bool}{x:Value}{w:World}(h:IsKn k lo hi f x w)(hk:k<=k'):IsKn k' lo hi f x w:=
 let ⟨s,a,n,c,s',a',n',c',h1,h2,h3⟩:=h;⟨s,a,n,c,s',a',n',c',h1,h2.mono hk,h3.mono hk⟩
theorem IsKn.tight{k k':Nat}{lo hi:Int}{f:Bool}{x:Value}{w:World}(h:IsKn k lo hi f x w)(h1:lo.natAbs<4294967296^k')(h2:hi.natAbs<4294967296^k'):IsKn k' lo hi f x w:=
 let ⟨s,a,n,c,s',a',n',c',e,g1,g2⟩:=h;⟨s,a,n,c,s',a',n',c',e,g1.tight h1,g2.tight h2⟩
section
variable {P:Program} {ops:Array Oper} {Q:Exit->Act->World->Prop} {ds:List (Option Tmp)} {a0:Act} {w0:World} {L:List (Value->World->Prop)} {boxes:List Nat} {i k:Nat} {o:Oper} {os:List Oper}
theorem lv{T:Nat}{x:Operand}{p:Value}(u:Value){fP:Value->World->Prop}(hr:∀w,Ext w0 w->(Instr.loadAt T p).run P w=.ok u w)(hx:Od ops ds a0 w0 L i x (IsV p))(hZ:∀w,Ext w0 w->fP u w)(ho:o.op=.load T x:=by rfl)
  (hi:L.getD i (λ_ _=>True)=fP:=by kernel_rfl) (hb:boxes.contains i=false:=by kernel_rfl):Ok P ops Q ds a0 w0 L boxes i o:=
 Ok.of hb λv a w hE hd hf=>⟨u,ld_run ho (hx.out v a w hE hd hf) (hr w hE),by rw[hi];exact hZ w hE⟩
theorem lvI(f:Nat){T g:Nat}{x:Operand}{vs:List Value}{s:Bool}{a:Option Addr}{n c:Nat}{kz:Nat}{z:Int}(B:Bk w0 g vs)(hz:IsI kz z (.agg #[.bool s,.slice a n c]) w0)(hT:LdI P T)(hx:Od ops ds a0 w0 L i x (IsP g f))(h0:vs[f]? =some (.bool s):=by rfl)(h1:vs[f+1]? =some (.slice a n c):=by rfl)(ho:o.op=.load T x:=by rfl)
  (hi:L.getD i (λ_ _=>True)=IsI kz z:=by kernel_rfl) (hb:boxes.contains i=false:=by kernel_rfl):Ok P ops Q ds a0 w0 L boxes i o:=
 lv _ (λw e=>hT w g f s a n c ((B.ext e).c f _ h0) ((B.ext e).c (f+1) _ h1)) hx (λ_w e=>hz.ext e) ho hi hb
def LdV(P:Program)(T:TypeId)(m:Nat):Prop:=∀(w:World) (g:Nat) (vs:List Value),vs.length=m->Bk w g vs->(Instr.loadAt T (.pointer (some ⟨g,0,none⟩))).run P w=.ok (.agg vs.toArray) w
theorem lvV{T g m:Nat}{x:Operand}{vs:List Value}(B:Bk w0 g vs)(hT:LdV P T m)(hx:Od ops ds a0 w0 L i x (IsP g 0))(hl:vs.length=m:=by rfl)(ho:o.op=.load T x:=by rfl)
  (hi:L.getD i (λ_ _=>True)=IsV (.agg vs.toArray):=by kernel_rfl) (hb:boxes.contains i=false:=by kernel_rfl):Ok P ops Q ds a0 w0 L boxes i o:=
 lv _ (λw e=>hT w g vs hl (B.ext e)) hx (λ_ _=>rfl) ho hi hb
def LdC1(P:Program)(T:TypeId):Prop:=∀(w:World) (a:Addr) (v:Value),w.cell? a=some v->(Instr.loadAt T (.pointer (some a))).run P w=.ok v w
theorem lvC(f:Nat){T g:Nat}{x:Operand}{vs:List Value}{u:Value}(B:Bk w0 g vs)(hT:LdC1 P T)(hx:Od ops ds a0 w0 L i x (IsP g f))(h0:vs[f]? =some u:=by rfl)(ho:o.op=.load T x:=by rfl)
  (hi:L.getD i (λ_ _=>True)=IsV u:=by kernel_rfl) (hb:boxes.contains i=false:=by kernel_rfl):Ok P ops Q ds a0 w0 L boxes i o:=
 lv _ (λw e=>hT w _ u ((B.ext e).c f _ h0)) hx (λ_ _=>rfl) ho hi hb
theorem layL_defers(v:Nat->Value):∀(ds:List (Option Tmp)) (a:Act) (k:Nat),(qW v a k ds).defers=a.defers
 | [],_,_=>rfl
 | d ::ds,a,k=>by
  unfold qW;rw[layL_defers v ds];cases d <;> rfl
theorem RcP{f:FuncId}{c:Call}{x:Operand}{fP:Value->World->Prop}(he:∀args w,(callFunc f args).run P w=.ok (.enter f args) w)(hx:Od ops ds a0 w0 L i x fP)
  (h:∀u w,Ext w0 w->fP u w->Calls P f #[u] w λe w'=>∃ch,e=.panicked ch/\∀a:Act,a.defers=a0.defers->Q (.panic ch) a w')
  (hs:RgAll P .any ops Q ds a0 w0 L boxes (i+1) k os)
  (ho:o.op=.call c:=by rfl) (hc:c.callee=.value (.func f):=by rfl) (ha:c.args= #[x]:=by rfl) (hg:o.guard=none:=by rfl):RgAll P .any ops Q ds a0 w0 L boxes i (k+1) (o ::os):=by
 refine⟨?_,hs⟩;intro v w hE hd K hK;rw[if_pos (by simp[Region.wanted,hg])];have hf:=Fr.of ds a0 v
 have hr:(execOp (qW v a0 0 ds).eval o).run P w=.ok (.enter f (c.args.map (qW v a0 0 ds).eval)) w:=by
  unfold execOp;rw[ho];dsimp only;unfold resolve;rw[hc];simp[invoke,he,Deferred.ofValue,show(qW v a0 0 ds).eval (.func f)=.func (.func f) #[] #[]from rfl]
 unfold Oper.wp;rw[hr,Oper.upon_enter,ha,show(#[x]:Array Operand).map (qW v a0 0 ds).eval= #[(qW v a0 0 ds).eval x]by simp];refine jJ (h _ w hE (hx.out v _ w hE hd hf)) ?_;rintro e w2 ⟨ch,rfl,hq⟩;exact hq _ (layL_defers v ds a0 0)
theorem bkn{x y:Operand}{T k1:Nat}{z1 z2:Int}(hx:Od ops ds a0 w0 L i x (IsI k1 z1))(hy:Od ops ds a0 w0 L i y (IsI k1 z2))
  (hT:∀(w:World) (s:Bool) (b:Option Addr) (n c:Nat) (s':Bool) (b':Option Addr) (n' c':Nat),(Instr.build T #[(0,.agg #[.bool s,.slice b n c]),(1,.agg #[.bool s',.slice b' n' c'])]).run P w=.ok (.agg #[.bool s,.slice b n c,.bool s',.slice b' n' c',.bool false]) w)
  (ho:o.op=.build T #[(0,x),(1,y)]:=by rfl) (hi:L.getD i (λ_ _=>True)=IsKn k1 z1 z2 false:=by kernel_rfl) (hb:boxes.contains i=false:=by kernel_rfl):Ok P ops Q ds a0 w0 L boxes i o:=
 Ok.of hb λv a w hE hd hf=>by
  obtain⟨s,b,n,c,e1,h1⟩:=hx.out v a w hE hd hf;obtain⟨s',b',n',c',e2,h2⟩:=hy.out v a w hE hd hf;exact⟨_,bd_run ho e1 e2 (hT w _ _ _ _ _ _ _ _),by rw[hi];exact⟨_,_,_,_,_,_,_,_,rfl,⟨_,_,_,_,rfl,h1⟩,⟨_,_,_,_,rfl,h2⟩⟩⟩
theorem bd3_run{x y z:Operand}{T:Nat}{a:Act}{p q r u:Value}{w:World}(ho:o.op=.build T #[(0,x),(1,y),(2,z)])(h:a.eval x=p)(h':a.eval y=q)(h2:a.eval z=r)(hr:(Instr.build T #[(0,p),(1,q),(2,r)]).run P w=.ok u w):(execOp a.eval o).run P w=.ok (.value u) w:=by
 unfold execOp;rw[ho];dsimp only;simp only[List.map_toArray,List.map_cons,List.map_nil];rw[h,h',h2];simp[hr]
theorem bkf{x y z:Operand}{T k1:Nat}{z1 z2:Int}{f:Bool}(hx:Od ops ds a0 w0 L i x (IsI k1 z1))(hy:Od ops ds a0 w0 L i y (IsI k1 z2))(hz:Od ops ds a0 w0 L i z (IsV (.bool f)))
  (hT:∀(w:World) (s:Bool) (b:Option Addr) (n c:Nat) (s':Bool) (b':Option Addr) (n' c':Nat) (f:Bool),(Instr.build T #[(0,.agg #[.bool s,.slice b n c]),(1,.agg #[.bool s',.slice b' n' c']),(2,.bool f)]).run P w=.ok (.agg #[.bool s,.slice b n c,.bool s',.slice b' n' c',.bool f]) w)
  (ho:o.op=.build T #[(0,x),(1,y),(2,z)]:=by rfl) (hi:L.getD i (λ_ _=>True)=IsKn k1 z1 z2 f:=by kernel_rfl) (hb:boxes.contains i=false:=by kernel_rfl):Ok P ops Q ds a0 w0 L boxes i o:=
 Ok.of hb λv a w hE hd hf=>by
  obtain⟨s,b,n,c,e1,h1⟩:=hx.out v a w hE hd hf;obtain⟨s',b',n',c',e2,h2⟩:=hy.out v a w hE hd hf;exact⟨_,bd3_run ho e1 e2 (hz.out v a w hE hd hf) (hT w _ _ _ _ _ _ _ _ _),by rw[hi];exact⟨_,_,_,_,_,_,_,_,rfl,⟨_,_,_,_,rfl,h1⟩,⟨_,_,_,_,rfl,h2⟩⟩⟩
def StV(P:Program)(T:TypeId)(m:Nat):Prop:=∀(w:World) (g:Nat) (vs us:List Value),vs.length=m->us.length=m->us.all (λu=>u.oneCell')=true->Bk w g vs->(Instr.storeAt T (.pointer (some ⟨g,0,none⟩)) (.agg us.toArray)).run P w=.ok () (xJ w g 0 us)
theorem stV{w W:World}{g m:Nat}{vs us:List Value}{a:Act}{K:Act->World->Prop}{T:Nat}{x y:Operand}(B:Bk W g vs)(hT:StV P T m)(hl:vs.length=m)(hl':us.length=m)(hn:∀v∈vs,NoWord v)(E:Ext w W)(hg:w.heap.size<=g)
  (h:∀W',Bk W' g us->Ext w W'->Gr W W'->(∀g' vs',g'≠g->Bk W g' vs'->Bk W' g' vs')->W'.heap.size=W.heap.size->K a W')
  (ho:o.op=.store T x y:=by rfl) (hd:o.dst=none:=by rfl) (hx:a.eval x=.pointer (some ⟨g,0,none⟩):=by kernel_rfl) (hy:a.eval y=.agg us.toArray:=by kernel_rfl) (ho1:us.all (λu=>u.oneCell')=true:=by rfl):Oper.wp P o a W K Q:=by
 obtain⟨W',h1,h2,h3,h4,h5,h6⟩:=B.put (us:=us) (by omega) hn E hg;refine st_wp ho hx hy (hT W g vs us hl hl' ho1 B) ?_;rw[h1,hd];exact h W' h2 h3 h4 h5 h6
end
theorem nw5{s:Bool}{a:Option Addr}{n c:Nat}{s':Bool}{a':Option Addr}{n' c':Nat}{f:Bool}:∀v∈ [Value.bool s,.slice a n c,.bool s',.slice a' n' c',.bool f],NoWord v:=by
 intro v hv;simp only[List.mem_cons,List.not_mem_nil,or_false]at hv;rcases hv with rfl|rfl|rfl|rfl|rfl
 ·exact NoWord.bool _
 ·exact NoWord.slice _ _ _
 ·exact NoWord.bool _
 ·exact NoWord.slice _ _ _
 ·exact NoWord.bool _
theorem nw2{s:Bool}{a:Option Addr}{n c:Nat}:∀v∈ [Value.bool s,.slice a n c],NoWord v:=by
 intro v hv;simp only[List.mem_cons,List.not_mem_nil,or_false]at hv;rcases hv with rfl|rfl
 ·exact NoWord.bool _
 ·exact NoWord.slice _ _ _
set_option maxRecDepth 100000
theorem xP:StV prog 176 5:=by
 intro w g vs us h1 h2 hs B
 match vs,h1 with
 | [v0,v1,v2,v3,v4],_=>
  match us,h2 with
  | [u0,u1,u2,u3,u4],_=>
   simp only[List.all_cons,List.all_nil,Bool.and_true,Bool.and_eq_true]at hs;obtain⟨s0,s1,s2,s3,s4⟩:=hs;have r0:=λw a m=>run_store prog w a u0 m s0;have r1:=λw a m=>run_store prog w a u1 m s1;have r2:=λw a m=>run_store prog w a u2 m s2;have r3:=λw a m=>run_store prog w a u3 m s3;have r4:=λw a m=>run_store prog w a u4 m s4
   have c0:=B.c 0 _ rfl;have c1:=B.c 1 _ rfl;have c2:=B.c 2 _ rfl;have c3:=B.c 3 _ rfl;have c4:=B.c 4 _ rfl;have f0:=B.f 0;have f1:=B.f 1;have f2:=B.f 2;have f3:=B.f 3;have f4:=B.f 4;clear B s0 s1 s2 s3 s4;simp only[xJ]
   go_simp
theorem st_In:StV prog 28 2:=by
 intro w g vs us h1 h2 hs B
 match vs,h1 with
 | [v0,v1],_=>
  match us,h2 with
  | [u0,u1],_=>
   simp only[List.all_cons,List.all_nil,Bool.and_true,Bool.and_eq_true]at hs;obtain⟨s0,s1⟩:=hs;have r0:=λw a m=>run_store prog w a u0 m s0;have r1:=λw a m=>run_store prog w a u1 m s1
   have c0:=B.c 0 _ rfl;have c1:=B.c 1 _ rfl;have f0:=B.f 0;have f1:=B.f 1;clear B s0 s1;simp only[xJ]
   go_simp
theorem ld_Kn:LdV prog 176 5:=by
 intro w g vs h1 B
 match vs,h1 with
 | [v0,v1,v2,v3,v4],_=>
  have c0:=B.c 0 _ rfl;have c1:=B.c 1 _ rfl;have c2:=B.c 2 _ rfl;have c3:=B.c 3 _ rfl;have c4:=B.c 4 _ rfl;clear B
  go_simp
theorem bd_Kn(w:World)(s:Bool)(b:Option Addr)(n c:Nat)(s':Bool)(b':Option Addr)(n' c':Nat):(Instr.build 176 #[(0,.agg #[.bool s,.slice b n c]),(1,.agg #[.bool s',.slice b' n' c'])]).run prog w=.ok (.agg #[.bool s,.slice b n c,.bool s',.slice b' n' c',.bool false]) w:=by go_simp
theorem bd_Kn3(w:World)(s:Bool)(b:Option Addr)(n c:Nat)(s':Bool)(b':Option Addr)(n' c':Nat)(f:Bool):(Instr.build 176 #[(0,.agg #[.bool s,.slice b n c]),(1,.agg #[.bool s',.slice b' n' c']),(2,.bool f)]).run prog w=.ok (.agg #[.bool s,.slice b n c,.bool s',.slice b' n' c',.bool f]) w:=by go_simp
theorem qR(g f:Nat)(w:World):(Instr.fieldAt 176 (.pointer (some ⟨g,f,none⟩)) 0).run prog w=.ok (.pointer (some ⟨g,f,none⟩)) w:=by go_simp
theorem qQ(g f:Nat)(w:World):(Instr.fieldAt 176 (.pointer (some ⟨g,f,none⟩)) 1).run prog w=.ok (.pointer (some ⟨g,f+2,none⟩)) w:=by go_simp
theorem fa_Kn2(g f:Nat)(w:World):(Instr.fieldAt 176 (.pointer (some ⟨g,f,none⟩)) 2).run prog w=.ok (.pointer (some ⟨g,f+4,none⟩)) w:=by go_simp
end
section
open Go Go.RowKit
open Go.Proofs.Tryz
theorem zbl{P:Prop}(h:P:=by exact cl2 (en func150) (qA (fP:=IsI k z2) 0 5) (qA (fP:=IsI k z1) 1 6) (λx0 x1 w' hE d0 d1=>jJ (Cmp_f d0 d1 zc zc) λ_ _ h=>h.int HC.out)):P:=h
theorem zc{P:Prop}(h:P:=by have:=HK.out;omega):P:=h
theorem ze{P:Prop}(h:P:=by exact⟨_,rfl,((((Sto.start w).new1 (w.heap.size) (by simp) s1 a1 n1 c1 28 (IsI k z1) (IsI.gstb _ _) (h1)).new1 (w.heap.size+1) (by simp) s2 a2 n2 c2 28 (IsI k z2) (IsI.gstb _ _) (h2.ext ((Ext.refl _).alloc _))).new1 (w.heap.size+1+1) (by simp) false none 0 0 28 (IsI 0 0) (IsI.gstb _ _) (IsI.nil _ _))⟩):P:=h
theorem xg{P:Prop}(h:P:=by unfold qM;(repeat' split) <;> omega):P:=h
theorem zak{P:Prop}(h:P:=by exact cl1 (en func110) qE (λx0 w' hE d0=>by{obtain rfl:x0=.int .i64 1:=d0;exact of_f w' 1 dcx})):P:=h
theorem zal{P:Prop}(h:P:=by exact cl1 (en func110) qE (λx0 w' hE d0=>by{obtain rfl:x0=.int .i64 0:=d0;exact of_f w' 0 dcx})):P:=h
set_option maxRecDepth 100000
set_option maxHeartbeats 4000000
theorem of_f(w:World)(z:Int)(hz: -9223372036854775808<=z/\z<=9223372036854775807):Calls prog 110 #[.int .i64 z] w (Ret w (IsI 2 z)):=by
 have HZ:=hid hz;clear hz;obtain⟨W,hW,S⟩:∃W,W=w.alloc (.cells #[.bool false,.slice none 0 0] 28)/\Sto w W [((w.heap.size,0),IsI 0 0)]:=⟨_,rfl,((Sto.start w).new1 (w.heap.size) (by simp) false none 0 0 28 (IsI 0 0) (IsI.gstb _ _) (IsI.nil _ _))⟩;go_enter func110,ntmps110;go_upto_region 1 with fail;rw[<-hW];clear hW;refine rgs 2 [some 3,some 4] [iV z,IsI 2 z] [] ?_ ?_
 ·refine Rc zv ?_;refine Rc (cl1 (en func108) (qA (fP:=iV z) 0 3) (λx0 w' hE d0=>by{obtain rfl:x0=.int .i64 z:=d0;exact Of_f _ z HZ.out.1 HZ.out.2})) ?_;exact rn0
 intro v W1 e1 hZ _;replace S:=S.mono e1;have h4:=hZ 1 dcx;simp only[lxE,Nat.reduceAdd];clear hZ e1
 try simp only[dxE]
 (with_reducible refine stL ?_ zb6);intro KK hKK;refine stI S 0 (w.heap.size) 0 h4 st_Int (λW1a S2 G2=>hKK _ _ ?_) rfl
 replace S:=S2;clear S2 G2 hKK KK h4;simp only[u0x]at S;refine jL ?_;go_wp2_with fail;obtain⟨s90x,a90x,n90x,c90x,b90x,h90x⟩:=S.at 0 (w.heap.size) 0 (IsI 2 z) rfl;have L90xa:World.cell? W1a ⟨w.heap.size,0,none⟩=some (.bool s90x):=b90x.c0;have L90xb:World.cell? W1a ⟨w.heap.size,1,none⟩=some (.slice a90x n90x c90x):=b90x.c1;exact jK (v:=.agg #[.bool s90x,.slice a90x n90x c90x]) (by simp[results,results110,go_sem,L90xa,L90xb]) rfl (⟨_,rfl,S.ext,h90x⟩)
theorem tEv1_2{P:Prop}(h:P:=by
  exact jK (v:=.agg #[.bool s90x,.slice a90x n90x c90x]) (by simp[results,results144,go_sem,L90xa,L90xb]) rfl (⟨_,rfl,S.ext,h90x⟩)
  ):P:=h
theorem lessv_y{k:Nat}{z1 z2 c:Int}{x y:Value}{w:World}(hx:IsI k z1 x w)(hy:IsI k z2 y w)(HK:Hid (k<=268435456))(HC:Hid (qM z2 z1=c))(HB:Hid (c<0)):Calls prog 144 #[x,y] w (Ret w (IsI k z2)):=by
 obtain⟨s1,a1,n1,c1,rfl,h1⟩:=hx;have h1:IsI _ _ _ w:=⟨_,_,_,_,rfl,h1⟩;obtain⟨s2,a2,n2,c2,rfl,h2⟩:=hy;have h2:IsI _ _ _ w:=⟨_,_,_,_,rfl,h2⟩;obtain⟨W,hW,S⟩:∃W,W=((w.alloc (.cells #[.bool s1,.slice a1 n1 c1] 28)).alloc (.cells #[.bool s2,.slice a2 n2 c2] 28)).alloc (.cells #[.bool false,.slice none 0 0] 28)/\Sto w W [((w.heap.size+1+1,0),IsI 0 0),((w.heap.size+1,0),IsI k z2),((w.heap.size,0),IsI k z1)]:=ze;clear h1 h2;go_enter func144,ntmps144;go_upto_region 1 with fail;rw[<-hW];clear hW;refine rgt S 4 (dR 5 4) [IsI k z2,IsI k z1,iV c,IsV (.bool true)] ?_ ?_
 ·refine Rc jp ?_;refine Rc js ?_;refine Rc zbl ?_;refine Rc (bn (r:=.bool true) (qC 2 7) qE (hr:=λw=>by have hx9:=HB.out;go_simp)) ?_;exact rn0
 intro v W1 S hZ;simp only[lxE,Nat.reduceAdd];rw[show v 3=.bool true from hZ 3 dcx];clear hZ;go_upto_region 2 with fail;refine rgs 1 [some 9] [IsI k z2] [] ?_ ?_
 ·refine Rc jp ?_;exact rn0
 intro v W2 e1 hZ _;replace S:=S.mono e1;have h9:=hZ 0 dcx;simp only[lxE];clear hZ e1
 try simp only[dxE]
 (with_reducible refine stL ?_ zb6);intro KK hKK;refine stI S 0 (w.heap.size+1+1) 0 h9 st_Int (λW2a S2 G2=>hKK _ _ ?_) rfl
 replace S:=S2;clear S2 G2 hKK KK h9;simp only[u0x]at S;refine jL ?_;go_wp2_with fail;obtain⟨s90x,a90x,n90x,c90x,b90x,h90x⟩:=S.at 0 (w.heap.size+1+1) 0 (IsI k z2) rfl;have L90xa:World.cell? W2a ⟨w.heap.size+1+1,0,none⟩=some (.bool s90x):=b90x.c0;have L90xb:World.cell? W2a ⟨w.heap.size+1+1,1,none⟩=some (.slice a90x n90x c90x):=b90x.c1;exact tEv1_2
theorem lessv_n{k:Nat}{z1 z2 c:Int}{x y:Value}{w:World}(hx:IsI k z1 x w)(hy:IsI k z2 y w)(HK:Hid (k<=268435456))(HC:Hid (qM z2 z1=c))(HB:Hid (¬c<0)):Calls prog 144 #[x,y] w (Ret w (IsI k z1)):=by
 obtain⟨s1,a1,n1,c1,rfl,h1⟩:=hx;have h1:IsI _ _ _ w:=⟨_,_,_,_,rfl,h1⟩;obtain⟨s2,a2,n2,c2,rfl,h2⟩:=hy;have h2:IsI _ _ _ w:=⟨_,_,_,_,rfl,h2⟩;obtain⟨W,hW,S⟩:∃W,W=((w.alloc (.cells #[.bool s1,.slice a1 n1 c1] 28)).alloc (.cells #[.bool s2,.slice a2 n2 c2] 28)).alloc (.cells #[.bool false,.slice none 0 0] 28)/\Sto w W [((w.heap.size+1+1,0),IsI 0 0),((w.heap.size+1,0),IsI k z2),((w.heap.size,0),IsI k z1)]:=ze;clear h1 h2;go_enter func144,ntmps144;go_upto_region 1 with fail;rw[<-hW];clear hW;refine rgt S 4 (dR 5 4) [IsI k z2,IsI k z1,iV c,IsV (.bool false)] ?_ ?_
 ·refine Rc jp ?_;refine Rc js ?_;refine Rc zbl ?_;refine Rc (bn (r:=.bool false) (qC 2 7) qE (hr:=λw=>by have hx9:=HB.out;go_simp)) ?_;exact rn0
 intro v W1 S hZ;simp only[lxE,Nat.reduceAdd];rw[show v 3=.bool false from hZ 3 dcx];clear hZ;go_upto_region 3 with fail;refine rgs 1 [some 10] [IsI k z1] [] ?_ ?_
 ·refine Rc js ?_;exact rn0
 intro v W3 e1 hZ _;replace S:=S.mono e1;have h10:=hZ 0 dcx;simp only[lxE];clear hZ e1
 try simp only[dxE]
 (with_reducible refine stL ?_ zb6);intro KK hKK;refine stI S 0 (w.heap.size+1+1) 0 h10 st_Int (λW3a S2 G2=>hKK _ _ ?_) rfl
 replace S:=S2;clear S2 G2 hKK KK h10;simp only[u0x]at S;refine jL ?_;go_wp2_with fail;obtain⟨s90x,a90x,n90x,c90x,b90x,h90x⟩:=S.at 0 (w.heap.size+1+1) 0 (IsI k z1) rfl;have L90xa:World.cell? W3a ⟨w.heap.size+1+1,0,none⟩=some (.bool s90x):=b90x.c0;have L90xb:World.cell? W3a ⟨w.heap.size+1+1,1,none⟩=some (.slice a90x n90x c90x):=b90x.c1;exact tEv1_2
theorem lessv_f{k:Nat}{z1 z2:Int}{x y:Value}{w:World}(hx:IsI k z1 x w)(hy:IsI k z2 y w)(hk:k<=268435456):Calls prog 144 #[x,y] w (Ret w (IsI k (min z1 z2))):=by
 by_cases h:z2<z1
 ·rw[show min z1 z2=z2 by omega];exact lessv_y hx hy (hid hk) (hid rfl) (hid xg)
 ·rw[show min z1 z2=z1 by omega];exact lessv_n hx hy (hid hk) (hid rfl) (hid xg)
theorem tEv1_3{P:Prop}(h:P:=by
  exact jK (v:=.agg #[.bool s90x,.slice a90x n90x c90x]) (by simp[results,results145,go_sem,L90xa,L90xb]) rfl (⟨_,rfl,S.ext,h90x⟩)
  ):P:=h
theorem greaterv_y{k:Nat}{z1 z2 c:Int}{x y:Value}{w:World}(hx:IsI k z1 x w)(hy:IsI k z2 y w)(HK:Hid (k<=268435456))(HC:Hid (qM z2 z1=c))(HB:Hid (0<c)):Calls prog 145 #[x,y] w (Ret w (IsI k z2)):=by
 obtain⟨s1,a1,n1,c1,rfl,h1⟩:=hx;have h1:IsI _ _ _ w:=⟨_,_,_,_,rfl,h1⟩;obtain⟨s2,a2,n2,c2,rfl,h2⟩:=hy;have h2:IsI _ _ _ w:=⟨_,_,_,_,rfl,h2⟩;obtain⟨W,hW,S⟩:∃W,W=((w.alloc (.cells #[.bool s1,.slice a1 n1 c1] 28)).alloc (.cells #[.bool s2,.slice a2 n2 c2] 28)).alloc (.cells #[.bool false,.slice none 0 0] 28)/\Sto w W [((w.heap.size+1+1,0),IsI 0 0),((w.heap.size+1,0),IsI k z2),((w.heap.size,0),IsI k z1)]:=ze;clear h1 h2;go_enter func145,ntmps145;go_upto_region 1 with fail;rw[<-hW];clear hW;refine rgt S 4 (dR 5 4) [IsI k z2,IsI k z1,iV c,IsV (.bool true)] ?_ ?_
 ·refine Rc jp ?_;refine Rc js ?_;refine Rc zbl ?_;refine Rc (bn (r:=.bool true) (qC 2 7) qE (hr:=λw=>by have hx9:=HB.out;go_simp)) ?_;exact rn0
 intro v W1 S hZ;simp only[lxE,Nat.reduceAdd];rw[show v 3=.bool true from hZ 3 dcx];clear hZ;go_upto_region 2 with fail;refine rgs 1 [some 9] [IsI k z2] [] ?_ ?_
 ·refine Rc jp ?_;exact rn0
 intro v W2 e1 hZ _;replace S:=S.mono e1;have h9:=hZ 0 dcx;simp only[lxE];clear hZ e1
 try simp only[dxE]
 (with_reducible refine stL ?_ zb6);intro KK hKK;refine stI S 0 (w.heap.size+1+1) 0 h9 st_Int (λW2a S2 G2=>hKK _ _ ?_) rfl
 replace S:=S2;clear S2 G2 hKK KK h9;simp only[u0x]at S;refine jL ?_;go_wp2_with fail;obtain⟨s90x,a90x,n90x,c90x,b90x,h90x⟩:=S.at 0 (w.heap.size+1+1) 0 (IsI k z2) rfl;have L90xa:World.cell? W2a ⟨w.heap.size+1+1,0,none⟩=some (.bool s90x):=b90x.c0;have L90xb:World.cell? W2a ⟨w.heap.size+1+1,1,none⟩=some (.slice a90x n90x c90x):=b90x.c1;exact tEv1_3
theorem greaterv_n{k:Nat}{z1 z2 c:Int}{x y:Value}{w:World}(hx:IsI k z1 x w)(hy:IsI k z2 y w)(HK:Hid (k<=268435456))(HC:Hid (qM z2 z1=c))(HB:Hid (¬0<c)):Calls prog 145 #[x,y] w (Ret w (IsI k z1)):=by
 obtain⟨s1,a1,n1,c1,rfl,h1⟩:=hx;have h1:IsI _ _ _ w:=⟨_,_,_,_,rfl,h1⟩;obtain⟨s2,a2,n2,c2,rfl,h2⟩:=hy;have h2:IsI _ _ _ w:=⟨_,_,_,_,rfl,h2⟩;obtain⟨W,hW,S⟩:∃W,W=((w.alloc (.cells #[.bool s1,.slice a1 n1 c1] 28)).alloc (.cells #[.bool s2,.slice a2 n2 c2] 28)).alloc (.cells #[.bool false,.slice none 0 0] 28)/\Sto w W [((w.heap.size+1+1,0),IsI 0 0),((w.heap.size+1,0),IsI k z2),((w.heap.size,0),IsI k z1)]:=ze;clear h1 h2;go_enter func145,ntmps145;go_upto_region 1 with fail;rw[<-hW];clear hW;refine rgt S 4 (dR 5 4) [IsI k z2,IsI k z1,iV c,IsV (.bool false)] ?_ ?_
 ·refine Rc jp ?_;refine Rc js ?_;refine Rc zbl ?_;refine Rc (bn (r:=.bool false) (qC 2 7) qE (hr:=λw=>by have hx9:=HB.out;go_simp)) ?_;exact rn0
 intro v W1 S hZ;simp only[lxE,Nat.reduceAdd];rw[show v 3=.bool false from hZ 3 dcx];clear hZ;go_upto_region 3 with fail;refine rgs 1 [some 10] [IsI k z1] [] ?_ ?_
 ·refine Rc js ?_;exact rn0
 intro v W3 e1 hZ _;replace S:=S.mono e1;have h10:=hZ 0 dcx;simp only[lxE];clear hZ e1
 try simp only[dxE]
 (with_reducible refine stL ?_ zb6);intro KK hKK;refine stI S 0 (w.heap.size+1+1) 0 h10 st_Int (λW3a S2 G2=>hKK _ _ ?_) rfl
 replace S:=S2;clear S2 G2 hKK KK h10;simp only[u0x]at S;refine jL ?_;go_wp2_with fail;obtain⟨s90x,a90x,n90x,c90x,b90x,h90x⟩:=S.at 0 (w.heap.size+1+1) 0 (IsI k z1) rfl;have L90xa:World.cell? W3a ⟨w.heap.size+1+1,0,none⟩=some (.bool s90x):=b90x.c0;have L90xb:World.cell? W3a ⟨w.heap.size+1+1,1,none⟩=some (.slice a90x n90x c90x):=b90x.c1;exact tEv1_3
theorem greaterv_f{k:Nat}{z1 z2:Int}{x y:Value}{w:World}(hx:IsI k z1 x w)(hy:IsI k z2 y w)(hk:k<=268435456):Calls prog 145 #[x,y] w (Ret w (IsI k (max z1 z2))):=by
 by_cases h:z1<z2
 ·rw[show max z1 z2=z2 by omega];exact greaterv_y hx hy (hid hk) (hid rfl) (hid xg)
 ·rw[show max z1 z2=z1 by omega];exact greaterv_n hx hy (hid hk) (hid rfl) (hid xg)
theorem exact_f{k:Nat}{z:Int}{x:Value}{w:World}(hx:IsI k z x w):Calls prog 109 #[x] w (Ret w (IsKn k z z true)):=by
 obtain⟨s,a,n,c,rfl,h⟩:=hx
 obtain⟨W,hW,E,B1,B2⟩:∃W,W=(w.alloc (.cells #[.bool s,.slice a n c] 28)).alloc (.cells #[.bool false,.slice none 0 0,.bool false,.slice none 0 0,.bool false] 176)/\Ext w W/\Bk W w.heap.size [.bool s,.slice a n c]/\Bk W (w.heap.size+1) [.bool false,.slice none 0 0,.bool false,.slice none 0 0,.bool false]:=
  ⟨_,rfl,((Ext.refl w).alloc _).alloc _,(Bk.new w _ _).ext ((Ext.refl _).alloc _),Bk.newE _ _ (by simp) _ _⟩
 have h1:IsI k z (.agg #[.bool s,.slice a n c]) W:=⟨_,_,_,_,rfl,h.ext E⟩;clear h;go_enter func109,ntmps109;go_upto_region 1 with fail;rw[<-hW];clear hW;refine rgs 3 (dR 3 3) [IsI k z,IsI k z,IsKn k z z true] [] ?_ ?_
 ·refine Rc (lvI 0 B1 h1 qF (qB 1)) ?_;refine Rc (lvI 0 B1 h1 qF (qB 1)) ?_;refine Rc (bkf (qC 0 3) (qC 1 4) qE bd_Kn3) ?_;exact rn0
 intro v W1 e1 hZ _;replace E:=E.trans e1;replace B2:=B2.ext e1;obtain⟨s1,a1,n1,c1,s2,a2,n2,c2,hv,g1,g2⟩:=hZ 2 dcx;simp only[lxE,Nat.reduceAdd];rw[hv];clear hv hZ e1 B1 h1;refine stL λK hK=>?_
 refine stV (us:= [.bool s1,.slice a1 n1 c1,.bool s2,.slice a2 n2 c2,.bool true]) B2 xP rfl rfl nw5 E (by omega) (λW1a B3 E2 G2 _ _=>hK _ _ ?_);refine jL ?_;have d0:=B3.c 0 _ rfl;have d1:=B3.c 1 _ rfl;have d2:=B3.c 2 _ rfl;have d3:=B3.c 3 _ rfl;have d4:=B3.c 4 _ rfl;go_wp2_with fail;exact jK (v:=.agg #[.bool s1,.slice a1 n1 c1,.bool s2,.slice a2 n2 c2,.bool true]) (by simp[results,results109,go_sem,d0,d1,d2,d3,d4]) rfl ⟨_,rfl,E2,_,_,_,_,_,_,_,_,rfl,IsI.gstb _ _ _ _ _ G2 g1,IsI.gstb _ _ _ _ _ G2 g2⟩
structure Kn where
 lo:Int
 hi:Int
 fin:Bool
abbrev IsK(k:Nat)(q:Kn):Value->World->Prop:=IsKn k q.lo q.hi q.fin
def xI(a b:Bool):Kn:=if a then⟨1,1,true⟩else if b then⟨0,0,true⟩else⟨0,1,false⟩
theorem box_kn(w:World):Bk (w.alloc (.cells #[.bool false,.slice none 0 0,.bool false,.slice none 0 0,.bool false] 176)) w.heap.size [.bool false,.slice none 0 0,.bool false,.slice none 0 0,.bool false]:=Bk.new w _ _
theorem tEv1_1{P:Prop}(h:P:=by
  refine jL ?_;have d0:=B3.c 0 _ rfl;have d1:=B3.c 1 _ rfl;have d2:=B3.c 2 _ rfl;have d3:=B3.c 3 _ rfl;have d4:=B3.c 4 _ rfl;go_wp2_with fail;exact jK (v:=.agg #[.bool s1,.slice a1 n1 c1,.bool s2,.slice a2 n2 c2,.bool true]) (by simp[results,results149,go_sem,d0,d1,d2,d3,d4]) rfl ⟨_,rfl,E2,_,_,_,_,_,_,_,_,rfl,IsI.gstb _ _ _ _ _ G2 g1,IsI.gstb _ _ _ _ _ G2 g2⟩
  ):P:=h
theorem truth_1(w:World)(b:Bool):Calls prog 149 #[.bool true,.bool b] w (Ret w (IsKn 2 1 1 true)):=by
 obtain⟨W,hW,E,B2⟩:∃W,W=w.alloc (.cells #[.bool false,.slice none 0 0,.bool false,.slice none 0 0,.bool false] 176)/\Ext w W/\Bk W w.heap.size [.bool false,.slice none 0 0,.bool false,.slice none 0 0,.bool false]:=
  ⟨_,rfl,(Ext.refl w).alloc _,box_kn w⟩
 go_enter func149,ntmps149;go_upto_region 2 with fail;rw[<-hW];clear hW;refine rgs 2 [some 7,some 8] [IsI 2 1,IsKn 2 1 1 true] [] ?_ ?_
 ·refine Rc zak ?_;refine Rc (cl1 (en func109) (qA (fP:=IsI 2 1) 0 7) (λx0 w' hE d0=>exact_f d0)) ?_;exact rn0
 intro v W2 e1 hZ _;replace E:=E.trans e1;replace B2:=B2.ext e1;obtain⟨s1,a1,n1,c1,s2,a2,n2,c2,hv,g1,g2⟩:=hZ 1 dcx;simp only[lxE,Nat.reduceAdd];rw[hv];clear hv hZ e1;refine stL λK hK=>?_
 refine stV (us:= [.bool s1,.slice a1 n1 c1,.bool s2,.slice a2 n2 c2,.bool true]) B2 xP rfl rfl nw5 E (by omega) (λW2a B3 E2 G2 _ _=>hK _ _ ?_);exact tEv1_1
theorem truth_0(w:World):Calls prog 149 #[.bool false,.bool true] w (Ret w (IsKn 2 0 0 true)):=by
 obtain⟨W,hW,E,B2⟩:∃W,W=w.alloc (.cells #[.bool false,.slice none 0 0,.bool false,.slice none 0 0,.bool false] 176)/\Ext w W/\Bk W w.heap.size [.bool false,.slice none 0 0,.bool false,.slice none 0 0,.bool false]:=
  ⟨_,rfl,(Ext.refl w).alloc _,box_kn w⟩
 go_enter func149,ntmps149;go_upto_region 4 with fail;rw[<-hW];clear hW;refine rgs 2 [some 11,some 12] [IsI 2 0,IsKn 2 0 0 true] [] ?_ ?_
 ·refine Rc zal ?_;refine Rc (cl1 (en func109) (qA (fP:=IsI 2 0) 0 11) (λx0 w' hE d0=>exact_f d0)) ?_;exact rn0
 intro v W4 e1 hZ _;replace E:=E.trans e1;replace B2:=B2.ext e1;obtain⟨s1,a1,n1,c1,s2,a2,n2,c2,hv,g1,g2⟩:=hZ 1 dcx;simp only[lxE,Nat.reduceAdd];rw[hv];clear hv hZ e1;refine stL λK hK=>?_
 refine stV (us:= [.bool s1,.slice a1 n1 c1,.bool s2,.slice a2 n2 c2,.bool true]) B2 xP rfl rfl nw5 E (by omega) (λW4a B3 E2 G2 _ _=>hK _ _ ?_);exact tEv1_1
theorem truth_n(w:World):Calls prog 149 #[.bool false,.bool false] w (Ret w (IsKn 2 0 1 false)):=by
 obtain⟨W,hW,E,B2⟩:∃W,W=w.alloc (.cells #[.bool false,.slice none 0 0,.bool false,.slice none 0 0,.bool false] 176)/\Ext w W/\Bk W w.heap.size [.bool false,.slice none 0 0,.bool false,.slice none 0 0,.bool false]:=
  ⟨_,rfl,(Ext.refl w).alloc _,box_kn w⟩
 go_enter func149,ntmps149;go_upto_region 5 with fail;rw[<-hW];clear hW;refine rgs 3 (dR 13 3) [IsI 2 0,IsI 2 1,IsKn 2 0 1 false] [] ?_ ?_
 ·refine Rc zal ?_;refine Rc zak ?_;refine Rc (bkn (qC 0 13) (qC 1 14) bd_Kn) ?_;exact rn0
 intro v W5 e1 hZ _;replace E:=E.trans e1;replace B2:=B2.ext e1;obtain⟨s1,a1,n1,c1,s2,a2,n2,c2,hv,g1,g2⟩:=hZ 2 dcx;simp only[lxE,Nat.reduceAdd];rw[hv];clear hv hZ e1;refine stL λK hK=>?_
 refine stV (us:= [.bool s1,.slice a1 n1 c1,.bool s2,.slice a2 n2 c2,.bool false]) B2 xP rfl rfl nw5 E (by omega) (λW5a B3 E2 G2 _ _=>hK _ _ ?_);refine jL ?_;have d0:=B3.c 0 _ rfl;have d1:=B3.c 1 _ rfl;have d2:=B3.c 2 _ rfl;have d3:=B3.c 3 _ rfl;have d4:=B3.c 4 _ rfl;go_wp2_with fail;exact jK (v:=.agg #[.bool s1,.slice a1 n1 c1,.bool s2,.slice a2 n2 c2,.bool false]) (by simp[results,results149,go_sem,d0,d1,d2,d3,d4]) rfl ⟨_,rfl,E2,_,_,_,_,_,_,_,_,rfl,IsI.gstb _ _ _ _ _ G2 g1,IsI.gstb _ _ _ _ _ G2 g2⟩
theorem truth_f(w:World)(a b:Bool):Calls prog 149 #[.bool a,.bool b] w (Ret w (IsK 2 (xI a b))):=by
 cases a
 ·cases b
  ·exact truth_n w
  ·exact truth_0 w
 ·exact truth_1 w b
end
section
open Go Go.RowKit
open Go.Proofs.Tryz
theorem zad{P:Prop}(h:P:=by exact cl1 (en func190) (qA (fP:=IsI k lo) 1 4) (λx0 w' hE d0=>jJ (Bits_f d0 HK.out) λ_ _ h=>h.int H1.out)):P:=h
theorem zae{P:Prop}(h:P:=by exact cl1 (en func190) (qA (fP:=IsI k hi) 4 7) (λx0 w' hE d0=>jJ (Bits_f d0 HK.out) λ_ _ h=>h.int H2.out)):P:=h
set_option maxRecDepth 100000
set_option maxHeartbeats 4000000
section
variable {P:Program} {ops:Array Oper} {Q:Exit->Act->World->Prop} {ds:List (Option Tmp)} {a0:Act} {w0:World} {L:List (Value->World->Prop)} {boxes:List Nat} {i k:Nat} {o:Oper} {os:List Oper}
theorem ok2{x y:Operand}{p q r:Value}(hx:Od ops ds a0 w0 L i x (IsV p))(hy:Od ops ds a0 w0 L i y (IsV q))(hr:∀(a:Act) (w:World),a.eval x=p->a.eval y=q->(execOp a.eval o).run P w=.ok (.value r) w)
  (hi:L.getD i (λ_ _=>True)=IsV r:=by kernel_rfl) (hb:boxes.contains i=false:=by kernel_rfl):Ok P ops Q ds a0 w0 L boxes i o:=
 Ok.of hb λv a w hE hd hf=>⟨r,hr a w (hx.out v a w hE hd hf) (hy.out v a w hE hd hf),by rw[hi];exact rfl⟩
end
theorem max_run{P:Program}{o:Oper}{a:Act}{w:World}{x y:Operand}{ts:Array TypeId}{p q:Int}(h1:a.eval x=.int .i64 p)(h2:a.eval y=.int .i64 q)(ho:o.op=.call {callee:=.builtin .max,args:= #[x,y],argTypes:=ts}):(execOp a.eval o).run P w=.ok (.value (.int .i64 (if q >p then q else p))) w:=by
 unfold execOp;rw[ho];dsimp only;unfold resolve;simp only[List.map_toArray,List.map_cons,List.map_nil,h1,h2];simp[invoke,Builtin.max_,Builtin.max2,go_sem]
theorem min_run{P:Program}{o:Oper}{a:Act}{w:World}{x y:Operand}{ts:Array TypeId}{p q:Int}(h1:a.eval x=.int .i64 p)(h2:a.eval y=.int .i64 q)(ho:o.op=.call {callee:=.builtin .min,args:= #[x,y],argTypes:=ts}):(execOp a.eval o).run P w=.ok (.value (.int .i64 (if q<p then q else p))) w:=by
 unfold execOp;rw[ho];dsimp only;unfold resolve;simp only[List.map_toArray,List.map_cons,List.map_nil,h1,h2];simp[invoke,Builtin.min_,Builtin.min2,go_sem]
def failV(n:Int):Value:=.iface 172 (.agg #[.int .i64 n])
def pan(n:Int):List PanicEntry:= [{v:=failV n,recovered:=false}]
theorem short_y{k:Nat}{lo hi m1 m2 r:Int}{f:Bool}{x:Value}{w:World}(hx:IsKn k lo hi f x w)(HK:Hid (k<=268435456))(H1:Hid (((bitLen lo.natAbs:Nat):Int)=m1))(H2:Hid (((bitLen hi.natAbs:Nat):Int)=m2))(HR:Hid ((if m2 >m1 then m2 else m1)=r))(HB:Hid (¬r >4096)):Calls prog 139 #[x] w (Ret w (IsKn k lo hi f)):=by
 obtain⟨s,a,n,c,s',a',n',c',rfl,h1,h2⟩:=hx
 obtain⟨W,hW,E,B1,B2⟩:∃W,W=(w.alloc (.cells #[.bool s,.slice a n c,.bool s',.slice a' n' c',.bool f] 176)).alloc (.cells #[.bool false,.slice none 0 0,.bool false,.slice none 0 0,.bool false] 176)/\Ext w W/\Bk W w.heap.size [.bool s,.slice a n c,.bool s',.slice a' n' c',.bool f]/\Bk W (w.heap.size+1) [.bool false,.slice none 0 0,.bool false,.slice none 0 0,.bool false]:=
  ⟨_,rfl,((Ext.refl w).alloc _).alloc _,(Bk.new w _ _).ext ((Ext.refl _).alloc _),Bk.newE _ _ (by simp) _ _⟩
 replace h1:=h1.ext E;replace h2:=h2.ext E;go_enter func139,ntmps139;go_upto_region 1 with fail;rw[<-hW];clear hW;refine rg 8 (dR 3 8) [IsP (w.heap.size) 0,IsI k lo,iV m1,IsP (w.heap.size) 2,IsI k hi,iV m2,iV r,IsV (.bool false)] [] 0 ?_ ?_
 ·refine Rc (fa (qR w.heap.size 0) (qB 1)) ?_;refine Rc (lvI 0 B1 h1 qF (qA 0 3)) ?_;refine Rc zad ?_;refine Rc (fa (qQ w.heap.size 0) (qB 1)) ?_;refine Rc (lvI 2 B1 h2 qF (qA 3 6)) ?_;refine Rc zae ?_;refine Rc (ok2 (qC 2 5) (qC 5 8) (λa w h1 h2=>by rw[max_run h1 h2 rfl,HR.out])) ?_;refine Rc (bn (r:=.bool false) (qC 6 9) qE (hr:=λw=>by have hx9:=HB.out;go_simp)) ?_;exact rn0
 intro v W1 e1 hZ _;replace E:=E.trans e1;replace B1:=B1.ext e1;replace B2:=B2.ext e1;replace h1:=h1.ext e1;replace h2:=h2.ext e1;simp only[lxE,Nat.reduceAdd];rw[show v 7=.bool false from hZ 7 dcx];clear hZ e1;refine jR za ?_ _;go_upto_region 3 with fail;refine rgs 1 [some 13] [IsV (.agg #[.bool s,.slice a n c,.bool s',.slice a' n' c',.bool f])] [] ?_ ?_
 ·refine Rc (lvV B1 ld_Kn (qB 1)) ?_;exact rn0
 intro v W3 e1 hZ _;replace E:=E.trans e1;replace B2:=B2.ext e1;replace h1:=h1.ext e1;replace h2:=h2.ext e1;simp only[lxE];rw[show v 0=_ from hZ 0 dcx];clear hZ e1 B1;refine stL λK hK=>?_
 refine stV (us:= [.bool s,.slice a n c,.bool s',.slice a' n' c',.bool f]) B2 xP rfl rfl nw5 E (by omega) (λW3a B3 E2 G2 _ _=>hK _ _ ?_);refine jL ?_;have d0:=B3.c 0 _ rfl;have d1:=B3.c 1 _ rfl;have d2:=B3.c 2 _ rfl;have d3:=B3.c 3 _ rfl;have d4:=B3.c 4 _ rfl;go_wp2_with fail;exact jK (v:=.agg #[.bool s,.slice a n c,.bool s',.slice a' n' c',.bool f]) (by simp[results,results139,go_sem,d0,d1,d2,d3,d4]) rfl ⟨_,rfl,E2,_,_,_,_,_,_,_,_,rfl,IsI.gstb _ _ _ _ _ G2 h1,IsI.gstb _ _ _ _ _ G2 h2⟩
theorem short_n{k:Nat}{lo hi m1 m2 r:Int}{f:Bool}{x:Value}{w:World}(hx:IsKn k lo hi f x w)(HK:Hid (k<=268435456))(H1:Hid (((bitLen lo.natAbs:Nat):Int)=m1))(H2:Hid (((bitLen hi.natAbs:Nat):Int)=m2))(HR:Hid ((if m2 >m1 then m2 else m1)=r))(HB:Hid (r >4096)):Calls prog 139 #[x] w (λe w'=>e=.panicked (pan 2)/\Ext w w'):=by
 obtain⟨s,a,n,c,s',a',n',c',rfl,h1,h2⟩:=hx
 obtain⟨W,hW,E,B1⟩:∃W,W=(w.alloc (.cells #[.bool s,.slice a n c,.bool s',.slice a' n' c',.bool f] 176)).alloc (.cells #[.bool false,.slice none 0 0,.bool false,.slice none 0 0,.bool false] 176)/\Ext w W/\Bk W w.heap.size [.bool s,.slice a n c,.bool s',.slice a' n' c',.bool f]:=
  ⟨_,rfl,((Ext.refl w).alloc _).alloc _,(Bk.new w _ _).ext ((Ext.refl _).alloc _)⟩
 replace h1:=h1.ext E;replace h2:=h2.ext E;go_enter func139,ntmps139;go_upto_region 1 with fail;rw[<-hW];clear hW;refine rg 8 (dR 3 8) [IsP (w.heap.size) 0,IsI k lo,iV m1,IsP (w.heap.size) 2,IsI k hi,iV m2,iV r,IsV (.bool true)] [] 0 ?_ ?_
 ·refine Rc (fa (qR w.heap.size 0) (qB 1)) ?_;refine Rc (lvI 0 B1 h1 qF (qA 0 3)) ?_;refine Rc zad ?_;refine Rc (fa (qQ w.heap.size 0) (qB 1)) ?_;refine Rc (lvI 2 B1 h2 qF (qA 3 6)) ?_;refine Rc zae ?_;refine Rc (ok2 (qC 2 5) (qC 5 8) (λa w h1 h2=>by rw[max_run h1 h2 rfl,HR.out])) ?_;refine Rc (bn (r:=.bool true) (qC 6 9) qE (hr:=λw=>by have hx9:=HB.out;go_simp)) ?_;exact rn0
 intro v W1 e1 hZ _;replace E:=E.trans e1;simp only[lxE,Nat.reduceAdd];rw[show v 7=.bool true from hZ 7 dcx];clear hZ e1;refine jR za ?_ _;go_wp2_with fail;exact⟨rfl,rfl,E⟩
end
end Go.Proofs.YtkeikfekkdplgaaGreatDoor
