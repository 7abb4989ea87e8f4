/-
 The reference package: DivMod. Every two integers of at most 2^26 words, the divisor not 0. (Printed in part by wip/gen/rdivmod.py.)
-/
import Derived.Test.YtkeikfekkdplgaaGreatDoorRFact
import Derived.Test.YtkeikfekkdplgaaGreatDoorRgm
namespace Go.Proofs.YtkeikfekkdplgaaGreatDoor
open Go Go.RowKit

set_option maxRecDepth 100000 in
set_option maxHeartbeats 4000000 in
theorem RDivMod_f {k1 k2 : Nat} {z1 z2 : Int} {x y : Value} {w : World} (hx : IsI k1 z1 x w) (hy : IsI k2 z2 y w) (l1 : k1 ≤ 67108864) (l2 : k2 ≤ 67108864) (hz : z2 ≠ 0) :
  Calls Tryz.prog 126 #[x, y] w (Ret w (IsT3 (IsI k1 (z1 / z2)) (IsI k2 (z1 % z2)) (IsV (.int .i64 0)))) := by
 obtain ⟨s1, a1, n1, c1, rfl, h1⟩ := hx; obtain ⟨s2, a2, n2, c2, rfl, h2⟩ := hy
 have hz0 := hid hz
 obtain ⟨W, hW, S⟩ : ∃ W, W = (((w.alloc (.cells #[.bool s1, .slice a1 n1 c1] 28)).alloc (.cells #[.bool s2, .slice a2 n2 c2] 28)).alloc (.cells #[.bool false, .slice none 0 0] 28)).alloc (.cells #[.bool false, .slice none 0 0] 28) ∧ St w W [(w.heap.size + 1 + 1 + 1, IsI 0 0), (w.heap.size + 1 + 1, IsI 0 0), (w.heap.size + 1, IsI k2 z2), (w.heap.size, IsI k1 z1)] := ⟨_, rfl, (((((St.start w).new' (w.heap.size) (by simp) s1 a1 n1 c1 28 (IsI k1 z1) (IsI.gstb _ _) ⟨_, _, _, _, rfl, h1⟩).new' (w.heap.size + 1) (by simp) s2 a2 n2 c2 28 (IsI k2 z2) (IsI.gstb _ _) ⟨_, _, _, _, rfl, h2.ext ((Ext.refl _).alloc _)⟩).new' (w.heap.size + 1 + 1) (by simp) false none 0 0 28 (IsI 0 0) (IsI.gstb _ _) (IsI.nil _ _)).new' (w.heap.size + 1 + 1 + 1) (by simp) false none 0 0 28 (IsI 0 0) (IsI.gstb _ _) (IsI.nil _ _))⟩
 clear h1 h2
 go_enter Tryz.func126, Tryz.ntmps126
 go_upto_region 1 with (fail)
 rw [← hW]
 clear hW
 obtain ⟨sa, aa, na, ca, ba, ha⟩ := S.at 3 (w.heap.size) (IsI k1 z1) rfl
 obtain ⟨sb, ab, nb, cb, bb, hb⟩ := S.at 2 (w.heap.size + 1) (IsI k2 z2) rfl
 obtain ⟨m1, g1, t1, e1⟩ := ha.int
 obtain ⟨m2, g2, t2, e2⟩ := hb.int
 have hnb : nb ≠ 0 := fun h => hz (hb.int.zero_iff.2 h)
 have hnb' : ((nb : Int) == 0) = false := by rw [beq_eq_false_iff_ne]; omega
 have hm2 : 0 < m2 := by
  rcases Nat.eq_zero_or_pos m2 with h | h
  ·exact absurd (g2.zero.1 h) hnb
  ·exact h
 have HD := hid (divide_c W aa ab na nb ca cb k1 k2 m1 m2 g1 g2 (by omega) (by omega) hm2)
 have Hba := hid ba
 have Hbb := hid bb
 have E1 := hid e1
 have E2 := hid e2
 have HM2 := hid hm2
 have sz1 := hid ha.int.size
 have sz2 := hid hb.int.size
 clear g1 g2 t1 t2 ha hb e1 e2 hm2 hz hnb
 have HS := hid S
 clear S
 have F1 := ba.c0; have F2 := ba.c1; have F3 := ba.f0; have F4 := ba.f1
 have G1 := bb.c0; have G2 := bb.c1; have G3 := bb.f0; have G4 := bb.f1
 clear ba bb
 go_wp2_with fail
 refine Calls.mono HD.out ?_
 rintro e w1 ⟨v, rfl, e1, q1, r1, rfl, ⟨aq, nq, cq, xq, rfl, hq, hqk, hqv⟩, ⟨ar, nr, cr, xr, rfl, hr, hrk, hrv⟩⟩
 have S := HS.out.mono e1
 have Hba := hid (Hba.out.ext e1)
 have Hbb := hid (Hbb.out.ext e1)
 have Hq := hid hq
 have Hr := hid hr
 have HS := hid S
 clear F1 F2 F3 F4 G1 G2 G3 G4 HD e1 S hq hr hnb'
 go_upto_region 4 with (fail)
 have hWd : ∃ w2, w2 = w1.alloc (.cells #[.slice aq nq cq, .slice ar nr cr] 270) ∧ Qx w2 w1.heap.size (.slice aq nq cq) (.slice ar nr cr) ∧ Ext w1 w2 :=
  ⟨_, rfl, ⟨by simp, by simp, by simp, by simp, NoWord.slice _ _ _, NoWord.slice _ _ _⟩, (Ext.refl w1).alloc _⟩
 obtain ⟨w2, hW, bd, e2⟩ := hWd
 rw [← hW]; clear hW
 obtain ⟨gd, hgd⟩ : ∃ gd, gd = w1.heap.size := ⟨_, rfl⟩
 rw [← hgd] at bd ⊢
 clear hgd
 obtain ⟨q0, hq0⟩ : ∃ q0 : Int, q0 = if (!(sa == sb)) then -(natVal xq : Int) else natVal xq := ⟨_, rfl⟩
 obtain ⟨r0, hr0⟩ : ∃ r0 : Int, r0 = if sa then -(natVal xr : Int) else natVal xr := ⟨_, rfl⟩
 have HM := hid (dm_math sa sb m1 m2 z1 z2 q0 r0 HM2.out E1.out E2.out (by rw [← hqv]; exact hq0) (by rw [← hrv]; exact hr0))
 have Hq0 := hid hq0
 have Hr0 := hid hr0
 have Bd := hid bd
 have C1 := hid (rmade_c w2 (!(sa == sb)) aq nq cq xq q0 (Hq.out.ext e2) Hq0.out)
 have S := HS.out.mono e2
 have Hba := hid (Hba.out.ext e2)
 have Hbb := hid (Hbb.out.ext e2)
 have Hr := hid (Hr.out.ext e2)
 have HS := hid S
 have F1 := Hba.out.c0; have F2 := Hba.out.c1; have F3 := Hba.out.f0; have F4 := Hba.out.f1
 have G1 := Hbb.out.c0; have G2 := Hbb.out.c1; have G3 := Hbb.out.f0; have G4 := Hbb.out.f1
 have D1 := bd.c0; have D2 := bd.c1; have D3 := bd.f0; have D4 := bd.f1
 clear S bd e2 hq0 hr0 Hq E1 E2 hqv hrv
 go_wp2_with fail
 refine Calls.mono C1.out ?_
 rintro e w3 ⟨s8, a8, n8, c8, rfl, e3, h8⟩
 have S := HS.out.mono e3
 have Hba := hid (Hba.out.ext e3)
 have Bd := hid (Bd.out.ext e3)
 have Hr := hid (Hr.out.ext e3)
 clear HS F1 F2 F3 F4 G1 G2 G3 G4 D1 D2 D3 D4 C1 e3
 go_upto_region 5 with (fail)
 obtain ⟨w4, hW, e4, S⟩ : ∃ w4, w4 = w3.alloc (.cells #[.bool s8, .slice a8 n8 c8] 28) ∧ Ext w3 w4 ∧ St w w4 ((w3.heap.size, IsI (k1 + 2) q0) :: [(w.heap.size + 1 + 1 + 1, IsI 0 0), (w.heap.size + 1 + 1, IsI 0 0), (w.heap.size + 1, IsI k2 z2), (w.heap.size, IsI k1 z1)]) :=
  ⟨_, rfl, (Ext.refl _).alloc _, S.new' _ rfl s8 a8 n8 c8 _ (IsI (k1 + 2) q0) (IsI.gstb _ _) ⟨_, _, _, _, rfl, h8.mono hqk⟩⟩
 rw [← hW]; clear hW
 obtain ⟨g8, hg8⟩ : ∃ g8, g8 = w3.heap.size := ⟨_, rfl⟩
 rw [← hg8] at S ⊢
 clear hg8 h8
 have C2 := hid (rmade_c w4 sa ar nr cr xr r0 (Hr.out.ext e4) Hr0.out)
 have ba := Hba.out.ext e4
 have bd := Bd.out.ext e4
 have F1 := ba.c0; have F2 := ba.c1; have F3 := ba.f0; have F4 := ba.f1
 have D1 := bd.c0; have D2 := bd.c1; have D3 := bd.f0; have D4 := bd.f1
 have HS := hid S
 clear S Hba Hbb Bd Hr ba bd e4
 go_wp2_with fail
 refine Calls.mono C2.out ?_
 rintro e w5 ⟨s9, a9, n9, c9, rfl, e5, h9⟩
 have S := HS.out.mono e5
 clear HS F1 F2 F3 F4 D1 D2 D3 D4 C2 e5
 go_upto_region 6 with (fail)
 obtain ⟨w6, hW, S⟩ : ∃ w6, w6 = w5.alloc (.cells #[.bool s9, .slice a9 n9 c9] 28) ∧ St w w6 ((w5.heap.size, IsI (k1 + 2) r0) :: [(g8, IsI (k1 + 2) q0), (w.heap.size + 1 + 1 + 1, IsI 0 0), (w.heap.size + 1 + 1, IsI 0 0), (w.heap.size + 1, IsI k2 z2), (w.heap.size, IsI k1 z1)]) :=
  ⟨_, rfl, S.new' _ rfl s9 a9 n9 c9 _ (IsI (k1 + 2) r0) (IsI.gstb _ _) ⟨_, _, _, _, rfl, h9.mono hrk⟩⟩
 rw [← hW]; clear hW
 obtain ⟨g9, hg9⟩ : ∃ g9, g9 = w5.heap.size := ⟨_, rfl⟩
 rw [← hg9] at S ⊢
 clear hg9 h9 Hq0 Hr0 hqk hrk
 rcases (by omega : r0 < 0 ∨ 0 ≤ r0) with h0 | h0
 ·have H0 := hid h0
  have HD := hid (dm_neg z1 z2 q0 r0 k1 k2 HM.out sz1.out sz2.out h0)
  have HT1 := hid (show (z1 / z2).natAbs < 4294967296 ^ k1 by have h := HD.out; rw [h.1]; exact h.2.2.1)
  have HT2 := hid (show (z1 % z2).natAbs < 4294967296 ^ k2 by have h := HD.out; rw [h.2.1]; exact h.2.2.2)
  clear h0
  rcases (by omega : z2 < 0 ∨ 0 ≤ z2) with hb | hb
  ·have HB := hid hb
   have HQ := hid (show q0 + 1 = z1 / z2 by rw [HD.out.1, Int.sign_eq_neg_one_of_neg hb]; omega)
   clear hb
   refine wp_region_rgs 2 [some 34, some 35] [IsV (.pointer (some ⟨g9, 0, none⟩)), IsV (.bool true)] [] (by decide) (by kernel_rfl) (by kernel_rfl) (by kernel_rfl) ?_ ?_ ?_ ?_
   ·repeat' (first | exact trivial | exact IsV.stb _ | exact IsW.stb _ | exact IsWk.stb _ _ | exact IsI.stb _ _ | exact IsB.stb _ | exact IsR.stb _ _ | exact IsMag.stb _ _ | exact IsPos.stb | apply IsT3.stb | apply IsT2.stb | apply And.intro)
   ·exact (fun _ h => by cases h)
   ·refine RgAll.cons (by { (with_reducible refine RgL.mk (by rfl) ?_); intro v a w' hE hd hf; have ev0 := hf.lit 9 (.pointer (some ⟨g9, 0, none⟩)) (by kernel_rfl) (by kernel_rfl); clear hd hf; intro K hK; go_simp; exact hK.out _ _ (Ext.refl _) rfl (FreshIf.no rfl) }) ?_
    refine RgAll.cons (by { (with_reducible refine RgL.mk (by rfl) ?_); intro v a w' hE hd hf; have d0 : v 0 = .pointer (some ⟨g9, 0, none⟩) := hd 0 (by kernel_rfl); have ev0 := hf.val 0 34 _ d0 (by kernel_rfl) (by kernel_rfl) (by kernel_rfl); clear d0; obtain ⟨s8, a8, n8, c8, b8, h8⟩ := (S.mono hE).at 0 (g9) (IsI (k1 + 2) r0) rfl; have L0 := b8.c0; have L1 := b8.c1; obtain rfl := h8.neg' (H0.out); clear hd hf; intro K hK; go_simp; exact hK.out _ _ (Ext.refl _) rfl (FreshIf.no rfl) }) ?_
    exact RgAll.nil
   intro v W7 e1 hΦ _
   replace S := S.mono e1
   have v1 : v 1 = .bool true := hΦ 1 (by decide)
   simp only [layL, Act.put, uAx, u0x, u1x, Nat.reduceAdd]
   rw [v1]
   clear v1
   clear hΦ
   clear e1
   refine wpList_nil ?_
   go_upto_region 7 with (fail)
   refine wp_region_rg 4 [some 36, some 37, some 38, some 39] [IsI (k1 + 2) r0, IsI k2 z2, IsI k2 z2.natAbs, IsI k2 (z1 % z2)] [] 1 (by kernel_rfl) (by decide) (by kernel_rfl) (by kernel_rfl) (by kernel_rfl) (by kernel_rfl) (by kernel_rfl) ?_ ?_ ?_ ?_
   ·repeat' (first | exact trivial | exact IsV.stb _ | exact IsW.stb _ | exact IsWk.stb _ _ | exact IsI.stb _ _ | exact IsB.stb _ | exact IsR.stb _ _ | exact IsMag.stb _ _ | exact IsPos.stb | apply IsT3.stb | apply IsT2.stb | apply And.intro)
   ·exact (fun _ h => by cases h)
   ·refine RgAll.cons (by { (with_reducible refine RgL.mk (by rfl) ?_); intro v a w' hE hd hf; have ev0 := hf.lit 9 (.pointer (some ⟨g9, 0, none⟩)) (by kernel_rfl) (by kernel_rfl); obtain ⟨s8, a8, n8, c8, b8, h8⟩ := (S.mono hE).at 0 (g9) (IsI (k1 + 2) r0) rfl; have L0 := b8.c0; have L1 := b8.c1; clear hd hf; intro K hK; go_simp; exact hK.out _ _ (Ext.refl _) h8 (FreshIf.no rfl) }) ?_
    refine RgAll.cons (by { (with_reducible refine RgL.mk (by rfl) ?_); intro v a w' hE hd hf; have ev0 := hf.lit 3 (.pointer (some ⟨w.heap.size + 1, 0, none⟩)) (by kernel_rfl) (by kernel_rfl); obtain ⟨s8, a8, n8, c8, b8, h8⟩ := (S.mono hE).at 4 (w.heap.size + 1) (IsI k2 z2) rfl; have L0 := b8.c0; have L1 := b8.c1; clear hd hf; intro K hK; go_simp; exact hK.out _ _ (Ext.refl _) h8 (FreshIf.no rfl) }) ?_
    refine RgAll.cons (by { (with_reducible refine RgL.mk (by rfl) ?_); intro v a w' hE hd hf; have d0 : (IsI k2 z2) (v 1) w' := hd 1 (by kernel_rfl); have ev0 := hf.val 1 37 _ rfl (by kernel_rfl) (by kernel_rfl) (by kernel_rfl); clear hd hf; intro K hK; go_simp; go_at_call 124; go_split_ands; (with_reducible refine Calls.mono (RAbs_f d0) ?_); rintro e w2 ⟨x, rfl, e2, hx⟩; exact hK.out _ _ e2 hx (FreshIf.no rfl) }) ?_
    refine RgAll.cons (by { (with_reducible refine RgL.mk (by rfl) ?_); intro v a w' hE hd hf; have d0 : (IsI (k1 + 2) r0) (v 0) w' := hd 0 (by kernel_rfl); have ev0 := hf.val 0 36 _ rfl (by kernel_rfl) (by kernel_rfl) (by kernel_rfl); have d1 : (IsI k2 z2.natAbs) (v 2) w' := hd 2 (by kernel_rfl); have ev1 := hf.val 2 38 _ rfl (by kernel_rfl) (by kernel_rfl) (by kernel_rfl); clear hd hf; intro K hK; go_simp; go_at_call 51; go_split_ands; (with_reducible refine Calls.mono (Calls.mono (RAdd_f d0 d1 (by omega) (by omega)) fun _ _ h => (h.eqz HD.out.2.1.symm).mono fun _ _ h => h.tight (k' := k2) HT2.out) ?_); rintro e w2 ⟨x, rfl, e2, hx⟩; exact hK.out _ _ e2 hx (FreshIf.no rfl) }) ?_
    exact RgAll.nil
   intro v W8 e1 hΦ _
   replace S := S.mono e1
   obtain ⟨s39, a39, n39, c39, v3, h39⟩ := (hΦ 3 (by decide) : IsI k2 (z1 % z2) (v 3) W8)
   simp only [layL, Act.put, uAx, u0x, u1x, Nat.reduceAdd]
   rw [v3]
   clear v3
   clear hΦ
   clear e1
   obtain ⟨s8, a8, n8, c8, b8, _⟩ := S.at 0 (g9) (IsI (k1 + 2) r0) rfl; have F1 := b8.c0; have F2 := b8.c1; have F3 := b8.f0; have F4 := b8.f1
   refine wpAny_ready (rs := [4]) (by kernel_rfl) (by simp) (AllReady.cons rfl (fun K hK => ?_) AllReady.nil); go_simp; refine hK _ _ ?_; clear hK K
   clear F1 F2 F3 F4 b8
   obtain ⟨W9, hW, S2, G2, _⟩ := S.put 0 (g9) (IsI (k1 + 2) r0) (IsI k2 (z1 % z2)) rfl s39 a39 n39 c39 (IsI.gstb _ _) ⟨_, _, _, _, rfl, h39⟩
   rw [← hW]; clear hW S
   have S : St w W9 [(g9, IsI k2 (z1 % z2)), (g8, IsI (k1 + 2) q0), (w.heap.size + 1 + 1 + 1, IsI 0 0), (w.heap.size + 1 + 1, IsI 0 0), (w.heap.size + 1, IsI k2 z2), (w.heap.size, IsI k1 z1)] := S2; clear S2 G2
   clear h39
   refine wpAny_done (by kernel_rfl) ?_ _
   go_upto_region 8 with (fail)
   refine wp_region_rgs 2 [some 40, some 41] [IsV (.pointer (some ⟨w.heap.size + 1, 0, none⟩)), IsV (.bool true)] [] (by decide) (by kernel_rfl) (by kernel_rfl) (by kernel_rfl) ?_ ?_ ?_ ?_
   ·repeat' (first | exact trivial | exact IsV.stb _ | exact IsW.stb _ | exact IsWk.stb _ _ | exact IsI.stb _ _ | exact IsB.stb _ | exact IsR.stb _ _ | exact IsMag.stb _ _ | exact IsPos.stb | apply IsT3.stb | apply IsT2.stb | apply And.intro)
   ·exact (fun _ h => by cases h)
   ·refine RgAll.cons (by { (with_reducible refine RgL.mk (by rfl) ?_); intro v a w' hE hd hf; have ev0 := hf.lit 3 (.pointer (some ⟨w.heap.size + 1, 0, none⟩)) (by kernel_rfl) (by kernel_rfl); clear hd hf; intro K hK; go_simp; exact hK.out _ _ (Ext.refl _) rfl (FreshIf.no rfl) }) ?_
    refine RgAll.cons (by { (with_reducible refine RgL.mk (by rfl) ?_); intro v a w' hE hd hf; have d0 : v 0 = .pointer (some ⟨w.heap.size + 1, 0, none⟩) := hd 0 (by kernel_rfl); have ev0 := hf.val 0 40 _ d0 (by kernel_rfl) (by kernel_rfl) (by kernel_rfl); clear d0; obtain ⟨s8, a8, n8, c8, b8, h8⟩ := (S.mono hE).at 4 (w.heap.size + 1) (IsI k2 z2) rfl; have L0 := b8.c0; have L1 := b8.c1; obtain rfl := h8.neg' (HB.out); clear hd hf; intro K hK; go_simp; exact hK.out _ _ (Ext.refl _) rfl (FreshIf.no rfl) }) ?_
    exact RgAll.nil
   intro v W10 e1 hΦ _
   replace S := S.mono e1
   have v1 : v 1 = .bool true := hΦ 1 (by decide)
   simp only [layL, Act.put, uAx, u0x, u1x, Nat.reduceAdd]
   rw [v1]
   clear v1
   clear hΦ
   clear e1
   refine wpList_nil ?_
   go_upto_region 9 with (fail)
   refine wp_region_rg 3 [some 42, some 43, some 44] [IsI (k1 + 2) q0, IsI 2 1, IsI k1 (z1 / z2)] [] 1 (by kernel_rfl) (by decide) (by kernel_rfl) (by kernel_rfl) (by kernel_rfl) (by kernel_rfl) (by kernel_rfl) ?_ ?_ ?_ ?_
   ·repeat' (first | exact trivial | exact IsV.stb _ | exact IsW.stb _ | exact IsWk.stb _ _ | exact IsI.stb _ _ | exact IsB.stb _ | exact IsR.stb _ _ | exact IsMag.stb _ _ | exact IsPos.stb | apply IsT3.stb | apply IsT2.stb | apply And.intro)
   ·exact (fun _ h => by cases h)
   ·refine RgAll.cons (by { (with_reducible refine RgL.mk (by rfl) ?_); intro v a w' hE hd hf; have ev0 := hf.lit 8 (.pointer (some ⟨g8, 0, none⟩)) (by kernel_rfl) (by kernel_rfl); obtain ⟨s8, a8, n8, c8, b8, h8⟩ := (S.mono hE).at 1 (g8) (IsI (k1 + 2) q0) rfl; have L0 := b8.c0; have L1 := b8.c1; clear hd hf; intro K hK; go_simp; exact hK.out _ _ (Ext.refl _) h8 (FreshIf.no rfl) }) ?_
    refine RgAll.cons (by { (with_reducible refine RgL.mk (by rfl) ?_); intro v a w' hE hd hf; skip; clear hd hf; intro K hK; go_simp; go_at_call 26; go_split_ands; (with_reducible refine Calls.mono (ROf_f _ 1 (by decide) (by decide)) ?_); rintro e w2 ⟨x, rfl, e2, hx⟩; exact hK.out _ _ e2 hx (FreshIf.no rfl) }) ?_
    refine RgAll.cons (by { (with_reducible refine RgL.mk (by rfl) ?_); intro v a w' hE hd hf; have d0 : (IsI (k1 + 2) q0) (v 0) w' := hd 0 (by kernel_rfl); have ev0 := hf.val 0 42 _ rfl (by kernel_rfl) (by kernel_rfl) (by kernel_rfl); have d1 : (IsI 2 1) (v 1) w' := hd 1 (by kernel_rfl); have ev1 := hf.val 1 43 _ rfl (by kernel_rfl) (by kernel_rfl) (by kernel_rfl); clear hd hf; intro K hK; go_simp; go_at_call 51; go_split_ands; (with_reducible refine Calls.mono (Calls.mono (RAdd_f d0 d1 (by omega) (by omega)) fun _ _ h => (h.eqz HQ.out).mono fun _ _ h => h.tight (k' := k1) HT1.out) ?_); rintro e w2 ⟨x, rfl, e2, hx⟩; exact hK.out _ _ e2 hx (FreshIf.no rfl) }) ?_
    exact RgAll.nil
   intro v W11 e1 hΦ _
   replace S := S.mono e1
   obtain ⟨s44, a44, n44, c44, v2, h44⟩ := (hΦ 2 (by decide) : IsI k1 (z1 / z2) (v 2) W11)
   simp only [layL, Act.put, uAx, u0x, u1x, Nat.reduceAdd]
   rw [v2]
   clear v2
   clear hΦ
   clear e1
   obtain ⟨s8, a8, n8, c8, b8, _⟩ := S.at 1 (g8) (IsI (k1 + 2) q0) rfl; have F1 := b8.c0; have F2 := b8.c1; have F3 := b8.f0; have F4 := b8.f1
   refine wpAny_ready (rs := [3]) (by kernel_rfl) (by simp) (AllReady.cons rfl (fun K hK => ?_) AllReady.nil); go_simp; refine hK _ _ ?_; clear hK K
   clear F1 F2 F3 F4 b8
   obtain ⟨W12, hW, S2, G2, _⟩ := S.put 1 (g8) (IsI (k1 + 2) q0) (IsI k1 (z1 / z2)) rfl s44 a44 n44 c44 (IsI.gstb _ _) ⟨_, _, _, _, rfl, h44⟩
   rw [← hW]; clear hW S
   have S : St w W12 [(g9, IsI k2 (z1 % z2)), (g8, IsI k1 (z1 / z2)), (w.heap.size + 1 + 1 + 1, IsI 0 0), (w.heap.size + 1 + 1, IsI 0 0), (w.heap.size + 1, IsI k2 z2), (w.heap.size, IsI k1 z1)] := S2; clear S2 G2
   clear h44
   refine wpAny_done (by kernel_rfl) ?_ _
   go_upto_region 11 with (fail)
   obtain ⟨ms0, ma0, mn0, mc0, mb0, mh0⟩ := S.at 1 (g8) (IsI k1 (z1 / z2)) rfl; have M00 := mb0.c0; have M10 := mb0.c1; have M20 := mb0.f0; have M30 := mb0.f1
   obtain ⟨ms1, ma1, mn1, mc1, mb1, mh1⟩ := S.at 0 (g9) (IsI k2 (z1 % z2)) rfl; have M01 := mb1.c0; have M11 := mb1.c1; have M21 := mb1.f0; have M31 := mb1.f1
   obtain ⟨ms2, ma2, mn2, mc2, mb2, mh2⟩ := S.at 3 (w.heap.size + 1 + 1) (IsI 0 0) rfl; have M02 := mb2.c0; have M12 := mb2.c1; have M22 := mb2.f0; have M32 := mb2.f1
   obtain ⟨ms3, ma3, mn3, mc3, mb3, mh3⟩ := S.at 2 (w.heap.size + 1 + 1 + 1) (IsI 0 0) rfl; have M03 := mb3.c0; have M13 := mb3.c1; have M23 := mb3.f0; have M33 := mb3.f1
   have N0_1 : g8 ≠ g9 := S.ne 1 0 _ _ rfl rfl (by decide)
   have N0_2 : g8 ≠ w.heap.size + 1 + 1 := S.ne 1 3 _ _ rfl rfl (by decide)
   have N0_3 : g8 ≠ w.heap.size + 1 + 1 + 1 := S.ne 1 2 _ _ rfl rfl (by decide)
   have N1_0 : g9 ≠ g8 := S.ne 0 1 _ _ rfl rfl (by decide)
   have N1_2 : g9 ≠ w.heap.size + 1 + 1 := S.ne 0 3 _ _ rfl rfl (by decide)
   have N1_3 : g9 ≠ w.heap.size + 1 + 1 + 1 := S.ne 0 2 _ _ rfl rfl (by decide)
   have N2_0 : w.heap.size + 1 + 1 ≠ g8 := S.ne 3 1 _ _ rfl rfl (by decide)
   have N2_1 : w.heap.size + 1 + 1 ≠ g9 := S.ne 3 0 _ _ rfl rfl (by decide)
   have N2_3 : w.heap.size + 1 + 1 ≠ w.heap.size + 1 + 1 + 1 := S.ne 3 2 _ _ rfl rfl (by decide)
   have N3_0 : w.heap.size + 1 + 1 + 1 ≠ g8 := S.ne 2 1 _ _ rfl rfl (by decide)
   have N3_1 : w.heap.size + 1 + 1 + 1 ≠ g9 := S.ne 2 0 _ _ rfl rfl (by decide)
   have N3_2 : w.heap.size + 1 + 1 + 1 ≠ w.heap.size + 1 + 1 := S.ne 2 3 _ _ rfl rfl (by decide)
   go_region
   all_goals (go_wp2_with fail)
   all_goals
    obtain ⟨W13, hW, S, G2, _⟩ := S.put 3 (w.heap.size + 1 + 1) (IsI 0 0) (IsI k1 (z1 / z2)) rfl ms0 ma0 mn0 mc0 (IsI.gstb _ _) mh0
    rw [← hW]; clear hW
    replace mh0 := IsI.gstb _ _ _ _ _ G2 mh0
    replace mh1 := IsI.gstb _ _ _ _ _ G2 mh1
    replace mh2 := IsI.gstb _ _ _ _ _ G2 mh2
    replace mh3 := IsI.gstb _ _ _ _ _ G2 mh3
    obtain ⟨W14, hW, S, G2, _⟩ := S.put 2 (w.heap.size + 1 + 1 + 1) (IsI 0 0) (IsI k2 (z1 % z2)) rfl ms1 ma1 mn1 mc1 (IsI.gstb _ _) mh1
    rw [← hW]; clear hW
    replace mh0 := IsI.gstb _ _ _ _ _ G2 mh0
    replace mh1 := IsI.gstb _ _ _ _ _ G2 mh1
    replace mh2 := IsI.gstb _ _ _ _ _ G2 mh2
    replace mh3 := IsI.gstb _ _ _ _ _ G2 mh3
    have S : St w W14 [(g9, IsI k2 (z1 % z2)), (g8, IsI k1 (z1 / z2)), (w.heap.size + 1 + 1 + 1, IsI k2 (z1 % z2)), (w.heap.size + 1 + 1, IsI k1 (z1 / z2)), (w.heap.size + 1, IsI k2 z2), (w.heap.size, IsI k1 z1)] := S
    clear M00 M10 M20 M30 mb0 mh0 M01 M11 M21 M31 mb1 mh1 M02 M12 M22 M32 mb2 mh2 M03 M13 M23 M33 mb3 mh3
    replace S := S.mono (Ext.refl _).drew
    obtain ⟨rs0, ra0, rn0, rc0, rb0, rh0⟩ := S.at 3 (w.heap.size + 1 + 1) (IsI k1 (z1 / z2)) rfl; have T0 := rb0.c0; have U0 := rb0.c1
    obtain ⟨rs1, ra1, rn1, rc1, rb1, rh1⟩ := S.at 2 (w.heap.size + 1 + 1 + 1) (IsI k2 (z1 % z2)) rfl; have T1 := rb1.c0; have U1 := rb1.c1
    exact bodyPost_ret (v := .tuple #[.agg #[.bool rs0, .slice ra0 rn0 rc0], .agg #[.bool rs1, .slice ra1 rn1 rc1], .int .i64 0]) (by simp [results, Tryz.results126, go_sem, T0, U0, T1, U1]) rfl (⟨_, rfl, S.ext, _, _, _, rfl, rh0, rh1, rfl⟩)
  ·have HB := hid hb
   have HQ := hid (show q0 - 1 = z1 / z2 by rw [HD.out.1, Int.sign_eq_one_of_pos (by have := hz0.out; omega)])
   clear hb
   refine wp_region_rgs 2 [some 34, some 35] [IsV (.pointer (some ⟨g9, 0, none⟩)), IsV (.bool true)] [] (by decide) (by kernel_rfl) (by kernel_rfl) (by kernel_rfl) ?_ ?_ ?_ ?_
   ·repeat' (first | exact trivial | exact IsV.stb _ | exact IsW.stb _ | exact IsWk.stb _ _ | exact IsI.stb _ _ | exact IsB.stb _ | exact IsR.stb _ _ | exact IsMag.stb _ _ | exact IsPos.stb | apply IsT3.stb | apply IsT2.stb | apply And.intro)
   ·exact (fun _ h => by cases h)
   ·refine RgAll.cons (by { (with_reducible refine RgL.mk (by rfl) ?_); intro v a w' hE hd hf; have ev0 := hf.lit 9 (.pointer (some ⟨g9, 0, none⟩)) (by kernel_rfl) (by kernel_rfl); clear hd hf; intro K hK; go_simp; exact hK.out _ _ (Ext.refl _) rfl (FreshIf.no rfl) }) ?_
    refine RgAll.cons (by { (with_reducible refine RgL.mk (by rfl) ?_); intro v a w' hE hd hf; have d0 : v 0 = .pointer (some ⟨g9, 0, none⟩) := hd 0 (by kernel_rfl); have ev0 := hf.val 0 34 _ d0 (by kernel_rfl) (by kernel_rfl) (by kernel_rfl); clear d0; obtain ⟨s8, a8, n8, c8, b8, h8⟩ := (S.mono hE).at 0 (g9) (IsI (k1 + 2) r0) rfl; have L0 := b8.c0; have L1 := b8.c1; obtain rfl := h8.neg' (H0.out); clear hd hf; intro K hK; go_simp; exact hK.out _ _ (Ext.refl _) rfl (FreshIf.no rfl) }) ?_
    exact RgAll.nil
   intro v W7 e1 hΦ _
   replace S := S.mono e1
   have v1 : v 1 = .bool true := hΦ 1 (by decide)
   simp only [layL, Act.put, uAx, u0x, u1x, Nat.reduceAdd]
   rw [v1]
   clear v1
   clear hΦ
   clear e1
   refine wpList_nil ?_
   go_upto_region 7 with (fail)
   refine wp_region_rg 4 [some 36, some 37, some 38, some 39] [IsI (k1 + 2) r0, IsI k2 z2, IsI k2 z2.natAbs, IsI k2 (z1 % z2)] [] 1 (by kernel_rfl) (by decide) (by kernel_rfl) (by kernel_rfl) (by kernel_rfl) (by kernel_rfl) (by kernel_rfl) ?_ ?_ ?_ ?_
   ·repeat' (first | exact trivial | exact IsV.stb _ | exact IsW.stb _ | exact IsWk.stb _ _ | exact IsI.stb _ _ | exact IsB.stb _ | exact IsR.stb _ _ | exact IsMag.stb _ _ | exact IsPos.stb | apply IsT3.stb | apply IsT2.stb | apply And.intro)
   ·exact (fun _ h => by cases h)
   ·refine RgAll.cons (by { (with_reducible refine RgL.mk (by rfl) ?_); intro v a w' hE hd hf; have ev0 := hf.lit 9 (.pointer (some ⟨g9, 0, none⟩)) (by kernel_rfl) (by kernel_rfl); obtain ⟨s8, a8, n8, c8, b8, h8⟩ := (S.mono hE).at 0 (g9) (IsI (k1 + 2) r0) rfl; have L0 := b8.c0; have L1 := b8.c1; clear hd hf; intro K hK; go_simp; exact hK.out _ _ (Ext.refl _) h8 (FreshIf.no rfl) }) ?_
    refine RgAll.cons (by { (with_reducible refine RgL.mk (by rfl) ?_); intro v a w' hE hd hf; have ev0 := hf.lit 3 (.pointer (some ⟨w.heap.size + 1, 0, none⟩)) (by kernel_rfl) (by kernel_rfl); obtain ⟨s8, a8, n8, c8, b8, h8⟩ := (S.mono hE).at 4 (w.heap.size + 1) (IsI k2 z2) rfl; have L0 := b8.c0; have L1 := b8.c1; clear hd hf; intro K hK; go_simp; exact hK.out _ _ (Ext.refl _) h8 (FreshIf.no rfl) }) ?_
    refine RgAll.cons (by { (with_reducible refine RgL.mk (by rfl) ?_); intro v a w' hE hd hf; have d0 : (IsI k2 z2) (v 1) w' := hd 1 (by kernel_rfl); have ev0 := hf.val 1 37 _ rfl (by kernel_rfl) (by kernel_rfl) (by kernel_rfl); clear hd hf; intro K hK; go_simp; go_at_call 124; go_split_ands; (with_reducible refine Calls.mono (RAbs_f d0) ?_); rintro e w2 ⟨x, rfl, e2, hx⟩; exact hK.out _ _ e2 hx (FreshIf.no rfl) }) ?_
    refine RgAll.cons (by { (with_reducible refine RgL.mk (by rfl) ?_); intro v a w' hE hd hf; have d0 : (IsI (k1 + 2) r0) (v 0) w' := hd 0 (by kernel_rfl); have ev0 := hf.val 0 36 _ rfl (by kernel_rfl) (by kernel_rfl) (by kernel_rfl); have d1 : (IsI k2 z2.natAbs) (v 2) w' := hd 2 (by kernel_rfl); have ev1 := hf.val 2 38 _ rfl (by kernel_rfl) (by kernel_rfl) (by kernel_rfl); clear hd hf; intro K hK; go_simp; go_at_call 51; go_split_ands; (with_reducible refine Calls.mono (Calls.mono (RAdd_f d0 d1 (by omega) (by omega)) fun _ _ h => (h.eqz HD.out.2.1.symm).mono fun _ _ h => h.tight (k' := k2) HT2.out) ?_); rintro e w2 ⟨x, rfl, e2, hx⟩; exact hK.out _ _ e2 hx (FreshIf.no rfl) }) ?_
    exact RgAll.nil
   intro v W8 e1 hΦ _
   replace S := S.mono e1
   obtain ⟨s39, a39, n39, c39, v3, h39⟩ := (hΦ 3 (by decide) : IsI k2 (z1 % z2) (v 3) W8)
   simp only [layL, Act.put, uAx, u0x, u1x, Nat.reduceAdd]
   rw [v3]
   clear v3
   clear hΦ
   clear e1
   obtain ⟨s8, a8, n8, c8, b8, _⟩ := S.at 0 (g9) (IsI (k1 + 2) r0) rfl; have F1 := b8.c0; have F2 := b8.c1; have F3 := b8.f0; have F4 := b8.f1
   refine wpAny_ready (rs := [4]) (by kernel_rfl) (by simp) (AllReady.cons rfl (fun K hK => ?_) AllReady.nil); go_simp; refine hK _ _ ?_; clear hK K
   clear F1 F2 F3 F4 b8
   obtain ⟨W9, hW, S2, G2, _⟩ := S.put 0 (g9) (IsI (k1 + 2) r0) (IsI k2 (z1 % z2)) rfl s39 a39 n39 c39 (IsI.gstb _ _) ⟨_, _, _, _, rfl, h39⟩
   rw [← hW]; clear hW S
   have S : St w W9 [(g9, IsI k2 (z1 % z2)), (g8, IsI (k1 + 2) q0), (w.heap.size + 1 + 1 + 1, IsI 0 0), (w.heap.size + 1 + 1, IsI 0 0), (w.heap.size + 1, IsI k2 z2), (w.heap.size, IsI k1 z1)] := S2; clear S2 G2
   clear h39
   refine wpAny_done (by kernel_rfl) ?_ _
   go_upto_region 8 with (fail)
   refine wp_region_rgs 2 [some 40, some 41] [IsV (.pointer (some ⟨w.heap.size + 1, 0, none⟩)), IsV (.bool false)] [] (by decide) (by kernel_rfl) (by kernel_rfl) (by kernel_rfl) ?_ ?_ ?_ ?_
   ·repeat' (first | exact trivial | exact IsV.stb _ | exact IsW.stb _ | exact IsWk.stb _ _ | exact IsI.stb _ _ | exact IsB.stb _ | exact IsR.stb _ _ | exact IsMag.stb _ _ | exact IsPos.stb | apply IsT3.stb | apply IsT2.stb | apply And.intro)
   ·exact (fun _ h => by cases h)
   ·refine RgAll.cons (by { (with_reducible refine RgL.mk (by rfl) ?_); intro v a w' hE hd hf; have ev0 := hf.lit 3 (.pointer (some ⟨w.heap.size + 1, 0, none⟩)) (by kernel_rfl) (by kernel_rfl); clear hd hf; intro K hK; go_simp; exact hK.out _ _ (Ext.refl _) rfl (FreshIf.no rfl) }) ?_
    refine RgAll.cons (by { (with_reducible refine RgL.mk (by rfl) ?_); intro v a w' hE hd hf; have d0 : v 0 = .pointer (some ⟨w.heap.size + 1, 0, none⟩) := hd 0 (by kernel_rfl); have ev0 := hf.val 0 40 _ d0 (by kernel_rfl) (by kernel_rfl) (by kernel_rfl); clear d0; obtain ⟨s8, a8, n8, c8, b8, h8⟩ := (S.mono hE).at 4 (w.heap.size + 1) (IsI k2 z2) rfl; have L0 := b8.c0; have L1 := b8.c1; obtain rfl := h8.pos' (HB.out); clear hd hf; intro K hK; go_simp; exact hK.out _ _ (Ext.refl _) rfl (FreshIf.no rfl) }) ?_
    exact RgAll.nil
   intro v W10 e1 hΦ _
   replace S := S.mono e1
   have v1 : v 1 = .bool false := hΦ 1 (by decide)
   simp only [layL, Act.put, uAx, u0x, u1x, Nat.reduceAdd]
   rw [v1]
   clear v1
   clear hΦ
   clear e1
   refine wpList_nil ?_
   go_upto_region 10 with (fail)
   refine wp_region_rg 3 [some 45, some 46, some 47] [IsI (k1 + 2) q0, IsI 2 1, IsI k1 (z1 / z2)] [] 1 (by kernel_rfl) (by decide) (by kernel_rfl) (by kernel_rfl) (by kernel_rfl) (by kernel_rfl) (by kernel_rfl) ?_ ?_ ?_ ?_
   ·repeat' (first | exact trivial | exact IsV.stb _ | exact IsW.stb _ | exact IsWk.stb _ _ | exact IsI.stb _ _ | exact IsB.stb _ | exact IsR.stb _ _ | exact IsMag.stb _ _ | exact IsPos.stb | apply IsT3.stb | apply IsT2.stb | apply And.intro)
   ·exact (fun _ h => by cases h)
   ·refine RgAll.cons (by { (with_reducible refine RgL.mk (by rfl) ?_); intro v a w' hE hd hf; have ev0 := hf.lit 8 (.pointer (some ⟨g8, 0, none⟩)) (by kernel_rfl) (by kernel_rfl); obtain ⟨s8, a8, n8, c8, b8, h8⟩ := (S.mono hE).at 1 (g8) (IsI (k1 + 2) q0) rfl; have L0 := b8.c0; have L1 := b8.c1; clear hd hf; intro K hK; go_simp; exact hK.out _ _ (Ext.refl _) h8 (FreshIf.no rfl) }) ?_
    refine RgAll.cons (by { (with_reducible refine RgL.mk (by rfl) ?_); intro v a w' hE hd hf; skip; clear hd hf; intro K hK; go_simp; go_at_call 26; go_split_ands; (with_reducible refine Calls.mono (ROf_f _ 1 (by decide) (by decide)) ?_); rintro e w2 ⟨x, rfl, e2, hx⟩; exact hK.out _ _ e2 hx (FreshIf.no rfl) }) ?_
    refine RgAll.cons (by { (with_reducible refine RgL.mk (by rfl) ?_); intro v a w' hE hd hf; have d0 : (IsI (k1 + 2) q0) (v 0) w' := hd 0 (by kernel_rfl); have ev0 := hf.val 0 45 _ rfl (by kernel_rfl) (by kernel_rfl) (by kernel_rfl); have d1 : (IsI 2 1) (v 1) w' := hd 1 (by kernel_rfl); have ev1 := hf.val 1 46 _ rfl (by kernel_rfl) (by kernel_rfl) (by kernel_rfl); clear hd hf; intro K hK; go_simp; go_at_call 52; go_split_ands; (with_reducible refine Calls.mono (Calls.mono (RSub_f d0 d1 (by omega) (by omega)) fun _ _ h => (h.eqz HQ.out).mono fun _ _ h => h.tight (k' := k1) HT1.out) ?_); rintro e w2 ⟨x, rfl, e2, hx⟩; exact hK.out _ _ e2 hx (FreshIf.no rfl) }) ?_
    exact RgAll.nil
   intro v W11 e1 hΦ _
   replace S := S.mono e1
   obtain ⟨s47, a47, n47, c47, v2, h47⟩ := (hΦ 2 (by decide) : IsI k1 (z1 / z2) (v 2) W11)
   simp only [layL, Act.put, uAx, u0x, u1x, Nat.reduceAdd]
   rw [v2]
   clear v2
   clear hΦ
   clear e1
   obtain ⟨s8, a8, n8, c8, b8, _⟩ := S.at 1 (g8) (IsI (k1 + 2) q0) rfl; have F1 := b8.c0; have F2 := b8.c1; have F3 := b8.f0; have F4 := b8.f1
   refine wpAny_ready (rs := [3]) (by kernel_rfl) (by simp) (AllReady.cons rfl (fun K hK => ?_) AllReady.nil); go_simp; refine hK _ _ ?_; clear hK K
   clear F1 F2 F3 F4 b8
   obtain ⟨W12, hW, S2, G2, _⟩ := S.put 1 (g8) (IsI (k1 + 2) q0) (IsI k1 (z1 / z2)) rfl s47 a47 n47 c47 (IsI.gstb _ _) ⟨_, _, _, _, rfl, h47⟩
   rw [← hW]; clear hW S
   have S : St w W12 [(g9, IsI k2 (z1 % z2)), (g8, IsI k1 (z1 / z2)), (w.heap.size + 1 + 1 + 1, IsI 0 0), (w.heap.size + 1 + 1, IsI 0 0), (w.heap.size + 1, IsI k2 z2), (w.heap.size, IsI k1 z1)] := S2; clear S2 G2
   clear h47
   refine wpAny_done (by kernel_rfl) ?_ _
   go_upto_region 11 with (fail)
   obtain ⟨ms0, ma0, mn0, mc0, mb0, mh0⟩ := S.at 1 (g8) (IsI k1 (z1 / z2)) rfl; have M00 := mb0.c0; have M10 := mb0.c1; have M20 := mb0.f0; have M30 := mb0.f1
   obtain ⟨ms1, ma1, mn1, mc1, mb1, mh1⟩ := S.at 0 (g9) (IsI k2 (z1 % z2)) rfl; have M01 := mb1.c0; have M11 := mb1.c1; have M21 := mb1.f0; have M31 := mb1.f1
   obtain ⟨ms2, ma2, mn2, mc2, mb2, mh2⟩ := S.at 3 (w.heap.size + 1 + 1) (IsI 0 0) rfl; have M02 := mb2.c0; have M12 := mb2.c1; have M22 := mb2.f0; have M32 := mb2.f1
   obtain ⟨ms3, ma3, mn3, mc3, mb3, mh3⟩ := S.at 2 (w.heap.size + 1 + 1 + 1) (IsI 0 0) rfl; have M03 := mb3.c0; have M13 := mb3.c1; have M23 := mb3.f0; have M33 := mb3.f1
   have N0_1 : g8 ≠ g9 := S.ne 1 0 _ _ rfl rfl (by decide)
   have N0_2 : g8 ≠ w.heap.size + 1 + 1 := S.ne 1 3 _ _ rfl rfl (by decide)
   have N0_3 : g8 ≠ w.heap.size + 1 + 1 + 1 := S.ne 1 2 _ _ rfl rfl (by decide)
   have N1_0 : g9 ≠ g8 := S.ne 0 1 _ _ rfl rfl (by decide)
   have N1_2 : g9 ≠ w.heap.size + 1 + 1 := S.ne 0 3 _ _ rfl rfl (by decide)
   have N1_3 : g9 ≠ w.heap.size + 1 + 1 + 1 := S.ne 0 2 _ _ rfl rfl (by decide)
   have N2_0 : w.heap.size + 1 + 1 ≠ g8 := S.ne 3 1 _ _ rfl rfl (by decide)
   have N2_1 : w.heap.size + 1 + 1 ≠ g9 := S.ne 3 0 _ _ rfl rfl (by decide)
   have N2_3 : w.heap.size + 1 + 1 ≠ w.heap.size + 1 + 1 + 1 := S.ne 3 2 _ _ rfl rfl (by decide)
   have N3_0 : w.heap.size + 1 + 1 + 1 ≠ g8 := S.ne 2 1 _ _ rfl rfl (by decide)
   have N3_1 : w.heap.size + 1 + 1 + 1 ≠ g9 := S.ne 2 0 _ _ rfl rfl (by decide)
   have N3_2 : w.heap.size + 1 + 1 + 1 ≠ w.heap.size + 1 + 1 := S.ne 2 3 _ _ rfl rfl (by decide)
   go_region
   all_goals (go_wp2_with fail)
   all_goals
    obtain ⟨W13, hW, S, G2, _⟩ := S.put 3 (w.heap.size + 1 + 1) (IsI 0 0) (IsI k1 (z1 / z2)) rfl ms0 ma0 mn0 mc0 (IsI.gstb _ _) mh0
    rw [← hW]; clear hW
    replace mh0 := IsI.gstb _ _ _ _ _ G2 mh0
    replace mh1 := IsI.gstb _ _ _ _ _ G2 mh1
    replace mh2 := IsI.gstb _ _ _ _ _ G2 mh2
    replace mh3 := IsI.gstb _ _ _ _ _ G2 mh3
    obtain ⟨W14, hW, S, G2, _⟩ := S.put 2 (w.heap.size + 1 + 1 + 1) (IsI 0 0) (IsI k2 (z1 % z2)) rfl ms1 ma1 mn1 mc1 (IsI.gstb _ _) mh1
    rw [← hW]; clear hW
    replace mh0 := IsI.gstb _ _ _ _ _ G2 mh0
    replace mh1 := IsI.gstb _ _ _ _ _ G2 mh1
    replace mh2 := IsI.gstb _ _ _ _ _ G2 mh2
    replace mh3 := IsI.gstb _ _ _ _ _ G2 mh3
    have S : St w W14 [(g9, IsI k2 (z1 % z2)), (g8, IsI k1 (z1 / z2)), (w.heap.size + 1 + 1 + 1, IsI k2 (z1 % z2)), (w.heap.size + 1 + 1, IsI k1 (z1 / z2)), (w.heap.size + 1, IsI k2 z2), (w.heap.size, IsI k1 z1)] := S
    clear M00 M10 M20 M30 mb0 mh0 M01 M11 M21 M31 mb1 mh1 M02 M12 M22 M32 mb2 mh2 M03 M13 M23 M33 mb3 mh3
    replace S := S.mono (Ext.refl _).drew
    obtain ⟨rs0, ra0, rn0, rc0, rb0, rh0⟩ := S.at 3 (w.heap.size + 1 + 1) (IsI k1 (z1 / z2)) rfl; have T0 := rb0.c0; have U0 := rb0.c1
    obtain ⟨rs1, ra1, rn1, rc1, rb1, rh1⟩ := S.at 2 (w.heap.size + 1 + 1 + 1) (IsI k2 (z1 % z2)) rfl; have T1 := rb1.c0; have U1 := rb1.c1
    exact bodyPost_ret (v := .tuple #[.agg #[.bool rs0, .slice ra0 rn0 rc0], .agg #[.bool rs1, .slice ra1 rn1 rc1], .int .i64 0]) (by simp [results, Tryz.results126, go_sem, T0, U0, T1, U1]) rfl (⟨_, rfl, S.ext, _, _, _, rfl, rh0, rh1, rfl⟩)
 ·have H0 := hid h0
  have HD := hid (dm_pos z1 z2 q0 r0 k1 k2 HM.out sz1.out sz2.out h0)
  clear h0
  refine wp_region_rgs 2 [some 34, some 35] [IsV (.pointer (some ⟨g9, 0, none⟩)), IsV (.bool false)] [] (by decide) (by kernel_rfl) (by kernel_rfl) (by kernel_rfl) ?_ ?_ ?_ ?_
  ·repeat' (first | exact trivial | exact IsV.stb _ | exact IsW.stb _ | exact IsWk.stb _ _ | exact IsI.stb _ _ | exact IsB.stb _ | exact IsR.stb _ _ | exact IsMag.stb _ _ | exact IsPos.stb | apply IsT3.stb | apply IsT2.stb | apply And.intro)
  ·exact (fun _ h => by cases h)
  ·refine RgAll.cons (by { (with_reducible refine RgL.mk (by rfl) ?_); intro v a w' hE hd hf; have ev0 := hf.lit 9 (.pointer (some ⟨g9, 0, none⟩)) (by kernel_rfl) (by kernel_rfl); clear hd hf; intro K hK; go_simp; exact hK.out _ _ (Ext.refl _) rfl (FreshIf.no rfl) }) ?_
   refine RgAll.cons (by { (with_reducible refine RgL.mk (by rfl) ?_); intro v a w' hE hd hf; have d0 : v 0 = .pointer (some ⟨g9, 0, none⟩) := hd 0 (by kernel_rfl); have ev0 := hf.val 0 34 _ d0 (by kernel_rfl) (by kernel_rfl) (by kernel_rfl); clear d0; obtain ⟨s8, a8, n8, c8, b8, h8⟩ := (S.mono hE).at 0 (g9) (IsI (k1 + 2) r0) rfl; have L0 := b8.c0; have L1 := b8.c1; obtain rfl := h8.pos' (H0.out); clear hd hf; intro K hK; go_simp; exact hK.out _ _ (Ext.refl _) rfl (FreshIf.no rfl) }) ?_
   exact RgAll.nil
  intro v W7 e1 hΦ _
  replace S := S.mono e1
  have v1 : v 1 = .bool false := hΦ 1 (by decide)
  simp only [layL, Act.put, uAx, u0x, u1x, Nat.reduceAdd]
  rw [v1]
  clear v1
  clear hΦ
  clear e1
  refine wpList_nil ?_
  go_upto_region 11 with (fail)
  obtain ⟨ms0, ma0, mn0, mc0, mb0, mh0⟩ := S.at 1 (g8) (IsI (k1 + 2) q0) rfl; have M00 := mb0.c0; have M10 := mb0.c1; have M20 := mb0.f0; have M30 := mb0.f1
  obtain ⟨ms1, ma1, mn1, mc1, mb1, mh1⟩ := S.at 0 (g9) (IsI (k1 + 2) r0) rfl; have M01 := mb1.c0; have M11 := mb1.c1; have M21 := mb1.f0; have M31 := mb1.f1
  obtain ⟨ms2, ma2, mn2, mc2, mb2, mh2⟩ := S.at 3 (w.heap.size + 1 + 1) (IsI 0 0) rfl; have M02 := mb2.c0; have M12 := mb2.c1; have M22 := mb2.f0; have M32 := mb2.f1
  obtain ⟨ms3, ma3, mn3, mc3, mb3, mh3⟩ := S.at 2 (w.heap.size + 1 + 1 + 1) (IsI 0 0) rfl; have M03 := mb3.c0; have M13 := mb3.c1; have M23 := mb3.f0; have M33 := mb3.f1
  have N0_1 : g8 ≠ g9 := S.ne 1 0 _ _ rfl rfl (by decide)
  have N0_2 : g8 ≠ w.heap.size + 1 + 1 := S.ne 1 3 _ _ rfl rfl (by decide)
  have N0_3 : g8 ≠ w.heap.size + 1 + 1 + 1 := S.ne 1 2 _ _ rfl rfl (by decide)
  have N1_0 : g9 ≠ g8 := S.ne 0 1 _ _ rfl rfl (by decide)
  have N1_2 : g9 ≠ w.heap.size + 1 + 1 := S.ne 0 3 _ _ rfl rfl (by decide)
  have N1_3 : g9 ≠ w.heap.size + 1 + 1 + 1 := S.ne 0 2 _ _ rfl rfl (by decide)
  have N2_0 : w.heap.size + 1 + 1 ≠ g8 := S.ne 3 1 _ _ rfl rfl (by decide)
  have N2_1 : w.heap.size + 1 + 1 ≠ g9 := S.ne 3 0 _ _ rfl rfl (by decide)
  have N2_3 : w.heap.size + 1 + 1 ≠ w.heap.size + 1 + 1 + 1 := S.ne 3 2 _ _ rfl rfl (by decide)
  have N3_0 : w.heap.size + 1 + 1 + 1 ≠ g8 := S.ne 2 1 _ _ rfl rfl (by decide)
  have N3_1 : w.heap.size + 1 + 1 + 1 ≠ g9 := S.ne 2 0 _ _ rfl rfl (by decide)
  have N3_2 : w.heap.size + 1 + 1 + 1 ≠ w.heap.size + 1 + 1 := S.ne 2 3 _ _ rfl rfl (by decide)
  go_region
  all_goals (go_wp2_with fail)
  all_goals
   obtain ⟨W8, hW, S, G2, _⟩ := S.put 3 (w.heap.size + 1 + 1) (IsI 0 0) (IsI (k1 + 2) q0) rfl ms0 ma0 mn0 mc0 (IsI.gstb _ _) mh0
   rw [← hW]; clear hW
   replace mh0 := IsI.gstb _ _ _ _ _ G2 mh0
   replace mh1 := IsI.gstb _ _ _ _ _ G2 mh1
   replace mh2 := IsI.gstb _ _ _ _ _ G2 mh2
   replace mh3 := IsI.gstb _ _ _ _ _ G2 mh3
   obtain ⟨W9, hW, S, G2, _⟩ := S.put 2 (w.heap.size + 1 + 1 + 1) (IsI 0 0) (IsI (k1 + 2) r0) rfl ms1 ma1 mn1 mc1 (IsI.gstb _ _) mh1
   rw [← hW]; clear hW
   replace mh0 := IsI.gstb _ _ _ _ _ G2 mh0
   replace mh1 := IsI.gstb _ _ _ _ _ G2 mh1
   replace mh2 := IsI.gstb _ _ _ _ _ G2 mh2
   replace mh3 := IsI.gstb _ _ _ _ _ G2 mh3
   have S : St w W9 [(g9, IsI (k1 + 2) r0), (g8, IsI (k1 + 2) q0), (w.heap.size + 1 + 1 + 1, IsI (k1 + 2) r0), (w.heap.size + 1 + 1, IsI (k1 + 2) q0), (w.heap.size + 1, IsI k2 z2), (w.heap.size, IsI k1 z1)] := S
   clear M00 M10 M20 M30 mb0 mh0 M01 M11 M21 M31 mb1 mh1 M02 M12 M22 M32 mb2 mh2 M03 M13 M23 M33 mb3 mh3
   replace S := S.mono (Ext.refl _).drew
   obtain ⟨rs0, ra0, rn0, rc0, rb0, rh0⟩ := S.at 3 (w.heap.size + 1 + 1) (IsI (k1 + 2) q0) rfl; have T0 := rb0.c0; have U0 := rb0.c1
   obtain ⟨rs1, ra1, rn1, rc1, rb1, rh1⟩ := S.at 2 (w.heap.size + 1 + 1 + 1) (IsI (k1 + 2) r0) rfl; have T1 := rb1.c0; have U1 := rb1.c1
   exact bodyPost_ret (v := .tuple #[.agg #[.bool rs0, .slice ra0 rn0 rc0], .agg #[.bool rs1, .slice ra1 rn1 rc1], .int .i64 0]) (by simp [results, Tryz.results126, go_sem, T0, U0, T1, U1]) rfl (⟨_, rfl, S.ext, _, _, _, rfl, by rw [HD.out.1]; exact rh0.tight HD.out.2.2.1, by rw [HD.out.2.1]; exact rh1.tight HD.out.2.2.2, rfl⟩)
end Go.Proofs.YtkeikfekkdplgaaGreatDoor
