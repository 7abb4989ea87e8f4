/-
  The reference package: Bezout. Every two integers of at most 2^25 words. (Printed by wip/gen/rbezout.py.)
-/
import Derived.Test.YtpflfagjkmeeiaaGreatDoorRDm
import Derived.Test.YtpflfagjkmeeiaaGreatDoorRgx
import Derived.Test.YtpflfagjkmeeiaaGreatDoorEx
namespace Go.Proofs.YtpflfagjkmeeiaaGreatDoor
open Go Go.RowKit

theorem abs_period (z x u : Int) (_hx : x ≠ 0) (hd : x ∣ z) : ((z.natAbs : Int) / x = 0 ↔ z / x = 0) ∧ u % ((z.natAbs : Int) / x) = u % (z / x) := by
  obtain ⟨c, rfl⟩ := hd
  rw [Int.mul_ediv_cancel_left _ _hx]
  rcases Int.le_total 0 (x * c) with h | h
  · rw [Int.natAbs_of_nonneg h, Int.mul_ediv_cancel_left _ _hx]; exact ⟨Iff.rfl, rfl⟩
  · have e : ((x * c).natAbs : Int) = x * (-c) := by rw [Int.mul_neg]; omega
    rw [e, Int.mul_ediv_cancel_left _ _hx]
    exact ⟨by omega, by rw [Int.emod_neg]⟩

set_option maxRecDepth 100000 in
set_option maxHeartbeats 4000000 in
theorem RBezout0_f {k1 k2 : Nat} {z1 : Int} {x y : Value} {w : World} (hx : IsI k1 z1 x w) (hy : IsI k2 0 y w) : Calls Tryz.prog 10 #[x, y] w (Ret w (IsT3 (IsI k1 z1.natAbs) (IsI 2 z1.sign) (IsI 0 0))) := by
  obtain ⟨s1, a1, n1, c1, rfl, h1⟩ := hx; obtain ⟨s2, a2, n2, c2, rfl, h2⟩ := hy
  obtain ⟨W, hW, S⟩ : ∃ W, W = ((((w.alloc (.cells #[.bool s1, .slice a1 n1 c1] 27)).alloc (.cells #[.bool s2, .slice a2 n2 c2] 27)).alloc (.cells #[.bool false, .slice none 0 0] 27)).alloc (.cells #[.bool false, .slice none 0 0] 27)).alloc (.cells #[.bool false, .slice none 0 0] 27) ∧ St w W [(w.heap.size + 1 + 1 + 1 + 1, IsI 0 0), (w.heap.size + 1 + 1 + 1, IsI 0 0), (w.heap.size + 1 + 1, IsI 0 0), (w.heap.size + 1, IsI k2 0), (w.heap.size, IsI k1 z1)] := ⟨_, rfl, ((((((St.start w).new' (w.heap.size) (by simp) s1 a1 n1 c1 27 (IsI k1 z1) (IsI.gstb _ _) ⟨_, _, _, _, rfl, h1⟩).new' (w.heap.size + 1) (by simp) s2 a2 n2 c2 27 (IsI k2 0) (IsI.gstb _ _) ⟨_, _, _, _, rfl, h2.ext ((Ext.refl _).alloc _)⟩).new' (w.heap.size + 1 + 1) (by simp) false none 0 0 27 (IsI 0 0) (IsI.gstb _ _) (IsI.nil _ _)).new' (w.heap.size + 1 + 1 + 1) (by simp) false none 0 0 27 (IsI 0 0) (IsI.gstb _ _) (IsI.nil _ _)).new' (w.heap.size + 1 + 1 + 1 + 1) (by simp) false none 0 0 27 (IsI 0 0) (IsI.gstb _ _) (IsI.nil _ _))⟩
  clear h1 h2
  go_enter Tryz.func10, Tryz.ntmps10
  go_upto_region 1 with (fail)
  rw [← hW]
  clear hW
  refine wp_region_rgs 4 [some 17, some 18, some 19, some 20] [IsV (.pointer (some ⟨w.heap.size + 1, 1, none⟩)), IsMag k2 0, IsV (.int .i64 0), IsV (.bool true)] [] (by decide) (by kernel_rfl) (by kernel_rfl) (by kernel_rfl) ?_ ?_ ?_ ?_
  · repeat' (first | exact trivial | exact IsV.stb _ | exact IsI.stb _ _ | exact IsB.stb _ | exact IsR.stb _ _ | exact IsMag.stb _ _ | exact IsPos.stb | apply IsT3.stb | apply IsT2.stb | apply And.intro)
  · exact (fun _ h => by cases h)
  · refine RgAll.cons (by { (with_reducible refine RgL.mk (by rfl) ?_); intro v a w' hE hd hf; have ev0 := hf.lit 3 (.pointer (some ⟨w.heap.size + 1, 0, none⟩)) (by kernel_rfl) (by kernel_rfl); clear hd hf; intro K hK; go_simp; exact hK.out _ _ (Ext.refl _) rfl (FreshIf.no rfl) }) ?_
    refine RgAll.cons (by { (with_reducible refine RgL.mk (by rfl) ?_); intro v a w' hE hd hf; have d0 : v 0 = .pointer (some ⟨w.heap.size + 1, 1, none⟩) := hd 0 (by kernel_rfl); have ev0 := hf.val 0 17 _ d0 (by kernel_rfl) (by kernel_rfl) (by kernel_rfl); clear d0; obtain ⟨s8, a8, n8, c8, b8, h8⟩ := (S.mono hE).at 3 (w.heap.size + 1) (IsI k2 0) rfl; have L0 := b8.c0; have L1 := b8.c1; obtain ⟨s9, a9, n9, c9, k9, h9⟩ := h8; injection k9 with k9; simp only [Array.mk.injEq, List.cons.injEq, Value.bool.injEq, Value.slice.injEq, and_true] at k9; obtain ⟨rfl, rfl, rfl, rfl⟩ := k9; clear hd hf; intro K hK; go_simp; exact hK.out _ _ (Ext.refl _) ⟨_, _, _, _, rfl, h9⟩ (FreshIf.no rfl) }) ?_
    refine RgAll.cons (by { (with_reducible refine RgL.mk (by rfl) ?_); intro v a w' hE hd hf; have d0 : (IsMag k2 0) (v 1) w' := hd 1 (by kernel_rfl); obtain ⟨s9, a9, n9, c9, z0, h9⟩ := d0; have ev0 := hf.val 1 18 _ z0 (by kernel_rfl) (by kernel_rfl) (by kernel_rfl); clear z0; obtain rfl : n9 = 0 := h9.zero_iff.1 (rfl); clear hd hf; intro K hK; go_simp; exact hK.out _ _ (Ext.refl _) rfl (FreshIf.no rfl) }) ?_
    refine RgAll.cons (by { (with_reducible refine RgL.mk (by rfl) ?_); intro v a w' hE hd hf; have d0 : v 2 = .int .i64 0 := hd 2 (by kernel_rfl); have ev0 := hf.val 2 19 _ d0 (by kernel_rfl) (by kernel_rfl) (by kernel_rfl); clear d0; clear hd hf; intro K hK; go_simp; exact hK.out _ _ (Ext.refl _) rfl (FreshIf.no rfl) }) ?_
    exact RgAll.nil
  intro v W1 e1 hΦ _
  replace S := S.mono e1
  have v3 : v 3 = .bool true := hΦ 3 (by decide)
  simp only [layL, Act.put, List.setIfInBounds_toArray, List.set_cons_zero, List.set_cons_succ, Nat.reduceAdd]
  rw [v3]
  clear v3
  clear hΦ
  clear e1
  refine wpList_nil ?_
  go_upto_region 2 with (fail)
  have XB0 : ∃ s a n c, Bx W1 (w.heap.size + 1 + 1) s a n c := by obtain ⟨s, a, n, c, b, _⟩ := S.at 2 (w.heap.size + 1 + 1) (IsI 0 0) rfl; exact ⟨s, a, n, c, b⟩
  have XL0 : w.heap.size ≤ w.heap.size + 1 + 1 := (S.box _ (List.mem_of_getElem? (i := 2) rfl)).1
  have XB1 : ∃ s a n c, Bx W1 (w.heap.size + 1 + 1 + 1) s a n c := by obtain ⟨s, a, n, c, b, _⟩ := S.at 1 (w.heap.size + 1 + 1 + 1) (IsI 0 0) rfl; exact ⟨s, a, n, c, b⟩
  have XL1 : w.heap.size ≤ w.heap.size + 1 + 1 + 1 := (S.box _ (List.mem_of_getElem? (i := 1) rfl)).1
  have XB2 : ∃ s a n c, Bx W1 (w.heap.size + 1 + 1 + 1 + 1) s a n c := by obtain ⟨s, a, n, c, b, _⟩ := S.at 0 (w.heap.size + 1 + 1 + 1 + 1) (IsI 0 0) rfl; exact ⟨s, a, n, c, b⟩
  have XL2 : w.heap.size ≤ w.heap.size + 1 + 1 + 1 + 1 := (S.box _ (List.mem_of_getElem? (i := 0) rfl)).1
  obtain ⟨XS, XM0, XM1, XM2, HXG, HXP, HXN, HXA⟩ := xs3 (w.heap.size + 1 + 1, IsI k1 z1.natAbs) (w.heap.size + 1 + 1 + 1, IsI 2 z1.sign) (w.heap.size + 1 + 1 + 1 + 1, IsI 0 0) (IsI.gstb _ _) (IsI.gstb _ _) (IsI.gstb _ _) (S.ne 2 1 (w.heap.size + 1 + 1, IsI 0 0) (w.heap.size + 1 + 1 + 1, IsI 0 0) rfl rfl (by decide)) (S.ne 2 0 (w.heap.size + 1 + 1, IsI 0 0) (w.heap.size + 1 + 1 + 1 + 1, IsI 0 0) rfl rfl (by decide)) (S.ne 1 0 (w.heap.size + 1 + 1 + 1, IsI 0 0) (w.heap.size + 1 + 1 + 1 + 1, IsI 0 0) rfl rfl (by decide))
  obtain ⟨xs0, xa0, xn0, xc0, xb0, xh0⟩ := S.at 4 (w.heap.size) (IsI k1 z1) rfl
  have XN0 := HXN (w.heap.size) (S.ne 2 4 (w.heap.size + 1 + 1, IsI 0 0) (w.heap.size, IsI k1 z1) rfl rfl (by decide)) (S.ne 1 4 (w.heap.size + 1 + 1 + 1, IsI 0 0) (w.heap.size, IsI k1 z1) rfl rfl (by decide)) (S.ne 0 4 (w.heap.size + 1 + 1 + 1 + 1, IsI 0 0) (w.heap.size, IsI k1 z1) rfl rfl (by decide))
  refine wp_region_rgx (Rx XS) 9 [some 21, some 22, some 23, some 24, some 25, some 26, none, none, none] [IsI k1 z1, IsI k1 z1.natAbs, IsI k1 z1, IsV (.int .i64 z1.sign), IsI 2 z1.sign, IsI 0 0, IsHas (w.heap.size + 1 + 1, IsI k1 z1.natAbs), IsHas (w.heap.size + 1 + 1 + 1, IsI 2 z1.sign), IsHas (w.heap.size + 1 + 1 + 1 + 1, IsI 0 0)] (by kernel_rfl) (by kernel_rfl) (by kernel_rfl) (by kernel_rfl) (by kernel_rfl) (by kernel_rfl) Rx.trans (Rx.of HXG) ?_ ?_ ?_
  · exact ⟨StbR.g (IsI.gstb _ _), StbR.g (IsI.gstb _ _), StbR.g (IsI.gstb _ _), StbR.v _ _, StbR.g (IsI.gstb _ _), StbR.g (IsI.gstb _ _), StbR.has _ XM0, StbR.has _ XM1, StbR.has _ XM2, trivial⟩
  · refine RgAllx.cons (by { (with_reducible refine RgLx.mk (by rfl) ?_); intro v a w' hR hd hf; have ev0 := hf.lit 2 (.pointer (some ⟨w.heap.size, 0, none⟩)) (by kernel_rfl) (by kernel_rfl); have b8 := hR.bx _ _ _ _ _ XN0 xb0; have L0 := b8.c0; have L1 := b8.c1; clear hd hf; intro K hK; go_simp; exact hK.out _ _ (Rx.of HXG (Ext.refl _)) ((IsI.gstb _ _) _ _ _ hR.gr xh0) }) ?_
    refine RgAllx.cons (by { (with_reducible refine RgLx.mk (by rfl) ?_); intro v a w' hR hd hf; have d0 : (IsI k1 z1) (v 0) w' := hd 0 (by kernel_rfl); have ev0 := hf.val 0 21 _ rfl (by kernel_rfl) (by kernel_rfl) (by kernel_rfl); clear hd hf; intro K hK; go_simp; go_at_call 22; go_split_ands; (with_reducible refine Calls.mono (RAbs_f d0) ?_); rintro e w2 ⟨x, rfl, e2, hx⟩; exact hK.out _ _ (Rx.of HXG e2) hx }) ?_
    refine RgAllx.cons (by { (with_reducible refine RgLx.mk (by rfl) ?_); intro v a w' hR hd hf; have ev0 := hf.lit 2 (.pointer (some ⟨w.heap.size, 0, none⟩)) (by kernel_rfl) (by kernel_rfl); have b8 := hR.bx _ _ _ _ _ XN0 xb0; have L0 := b8.c0; have L1 := b8.c1; clear hd hf; intro K hK; go_simp; exact hK.out _ _ (Rx.of HXG (Ext.refl _)) ((IsI.gstb _ _) _ _ _ hR.gr xh0) }) ?_
    refine RgAllx.cons (by { (with_reducible refine RgLx.mk (by rfl) ?_); intro v a w' hR hd hf; have d0 : (IsI k1 z1) (v 2) w' := hd 2 (by kernel_rfl); have ev0 := hf.val 2 23 _ rfl (by kernel_rfl) (by kernel_rfl) (by kernel_rfl); clear hd hf; intro K hK; go_simp; go_at_call 26; go_split_ands; (with_reducible refine Calls.mono (RSign_f d0) ?_); rintro e w2 ⟨x, rfl, e2, hx⟩; exact hK.out _ _ (Rx.of HXG e2) hx }) ?_
    refine RgAllx.cons (by { (with_reducible refine RgLx.mk (by rfl) ?_); intro v a w' hR hd hf; have d0 : v 3 = .int .i64 z1.sign := hd 3 (by kernel_rfl); have ev0 := hf.val 3 24 _ d0 (by kernel_rfl) (by kernel_rfl) (by kernel_rfl); clear d0; clear hd hf; intro K hK; go_simp; go_at_call 35; go_split_ands; (with_reducible refine Calls.mono (ROf_f _ z1.sign (sign_lo _) (sign_hi _)) ?_); rintro e w2 ⟨x, rfl, e2, hx⟩; exact hK.out _ _ (Rx.of HXG e2) hx }) ?_
    refine RgAllx.cons (by { (with_reducible refine RgLx.mk (by rfl) ?_); intro v a w' hR hd hf; skip; clear hd hf; intro K hK; go_simp; exact hK.out _ _ (Rx.of HXG (Ext.refl _)) (IsI.nil _ _) }) ?_
    refine RgAllx.cons (by { (with_reducible refine RgLx.mk (by rfl) ?_); intro v a w' hR hd hf; have ev0 := hf.lit 4 (.pointer (some ⟨w.heap.size + 1 + 1, 0, none⟩)) (by kernel_rfl) (by kernel_rfl); have d1 : (IsI k1 z1.natAbs) (v 1) w' := hd 1 (by kernel_rfl); obtain ⟨s9, a9, n9, c9, z0, h9⟩ := d1; have ev1 := hf.val 1 22 _ z0 (by kernel_rfl) (by kernel_rfl) (by kernel_rfl); clear z0; obtain ⟨s7, a7, n7, c7, b7⟩ := hR.box _ XM0 XB0; have F1 := b7.c0; have F2 := b7.c1; have F3 := b7.f0; have F4 := b7.f1; clear hd hf; intro K hK; go_simp; obtain ⟨W8, hW8, r8, h8⟩ := Rx.put HXG HXP _ XM0 ⟨_, _, _, _, b7⟩ s9 a9 n9 c9 ⟨_, _, _, _, rfl, h9⟩; rw [← hW8]; exact hK.out undef _ r8 h8 }) ?_
    refine RgAllx.cons (by { (with_reducible refine RgLx.mk (by rfl) ?_); intro v a w' hR hd hf; have ev0 := hf.lit 5 (.pointer (some ⟨w.heap.size + 1 + 1 + 1, 0, none⟩)) (by kernel_rfl) (by kernel_rfl); have d1 : (IsI 2 z1.sign) (v 4) w' := hd 4 (by kernel_rfl); obtain ⟨s9, a9, n9, c9, z0, h9⟩ := d1; have ev1 := hf.val 4 25 _ z0 (by kernel_rfl) (by kernel_rfl) (by kernel_rfl); clear z0; obtain ⟨s7, a7, n7, c7, b7⟩ := hR.box _ XM1 XB1; have F1 := b7.c0; have F2 := b7.c1; have F3 := b7.f0; have F4 := b7.f1; clear hd hf; intro K hK; go_simp; obtain ⟨W8, hW8, r8, h8⟩ := Rx.put HXG HXP _ XM1 ⟨_, _, _, _, b7⟩ s9 a9 n9 c9 ⟨_, _, _, _, rfl, h9⟩; rw [← hW8]; exact hK.out undef _ r8 h8 }) ?_
    refine RgAllx.cons (by { (with_reducible refine RgLx.mk (by rfl) ?_); intro v a w' hR hd hf; have ev0 := hf.lit 6 (.pointer (some ⟨w.heap.size + 1 + 1 + 1 + 1, 0, none⟩)) (by kernel_rfl) (by kernel_rfl); have d1 : (IsI 0 0) (v 5) w' := hd 5 (by kernel_rfl); obtain ⟨s9, a9, n9, c9, z0, h9⟩ := d1; have ev1 := hf.val 5 26 _ z0 (by kernel_rfl) (by kernel_rfl) (by kernel_rfl); clear z0; obtain ⟨s7, a7, n7, c7, b7⟩ := hR.box _ XM2 XB2; have F1 := b7.c0; have F2 := b7.c1; have F3 := b7.f0; have F4 := b7.f1; clear hd hf; intro K hK; go_simp; obtain ⟨W8, hW8, r8, h8⟩ := Rx.put HXG HXP _ XM2 ⟨_, _, _, _, b7⟩ s9 a9 n9 c9 ⟨_, _, _, _, rfl, h9⟩; rw [← hW8]; exact hK.out undef _ r8 h8 }) ?_
    exact RgAllx.nil
  intro v W2 r1 hΦ
  replace S := S.rx r1 (HXA _ ⟨XL0, IsI.gstb _ _, hΦ 6 (by decide)⟩ ⟨XL1, IsI.gstb _ _, hΦ 7 (by decide)⟩ ⟨XL2, IsI.gstb _ _, hΦ 8 (by decide)⟩) [(w.heap.size + 1 + 1 + 1 + 1, IsI 0 0), (w.heap.size + 1 + 1 + 1, IsI 2 z1.sign), (w.heap.size + 1 + 1, IsI k1 z1.natAbs), (w.heap.size + 1, IsI k2 0), (w.heap.size, IsI k1 z1)] rfl (by
    intro q hq; simp only [List.mem_cons, List.not_mem_nil, or_false] at hq; rcases hq with rfl | rfl | rfl | rfl | rfl
    · exact Or.inl XM2
    · exact Or.inl XM1
    · exact Or.inl XM0
    · exact Or.inr ⟨List.mem_of_getElem? (i := 3) rfl, HXN _ (S.ne 2 3 (w.heap.size + 1 + 1, IsI 0 0) (w.heap.size + 1, IsI k2 0) rfl rfl (by decide)) (S.ne 1 3 (w.heap.size + 1 + 1 + 1, IsI 0 0) (w.heap.size + 1, IsI k2 0) rfl rfl (by decide)) (S.ne 0 3 (w.heap.size + 1 + 1 + 1 + 1, IsI 0 0) (w.heap.size + 1, IsI k2 0) rfl rfl (by decide))⟩
    · exact Or.inr ⟨List.mem_of_getElem? (i := 4) rfl, HXN _ (S.ne 2 4 (w.heap.size + 1 + 1, IsI 0 0) (w.heap.size, IsI k1 z1) rfl rfl (by decide)) (S.ne 1 4 (w.heap.size + 1 + 1 + 1, IsI 0 0) (w.heap.size, IsI k1 z1) rfl rfl (by decide)) (S.ne 0 4 (w.heap.size + 1 + 1 + 1 + 1, IsI 0 0) (w.heap.size, IsI k1 z1) rfl rfl (by decide))⟩)
  simp only [layL, Act.put, List.setIfInBounds_toArray, List.set_cons_zero, List.set_cons_succ, Nat.reduceAdd]
  clear hΦ r1 HXG HXP HXN HXA
  refine wpAny_done (by kernel_rfl) ?_ _
  go_wp2_with fail
  obtain ⟨rs0, ra0, rn0, rc0, rb0, rh0⟩ := S.at 2 (w.heap.size + 1 + 1) (IsI k1 z1.natAbs) rfl; have T0 := rb0.c0; have U0 := rb0.c1
  obtain ⟨rs1, ra1, rn1, rc1, rb1, rh1⟩ := S.at 1 (w.heap.size + 1 + 1 + 1) (IsI 2 z1.sign) rfl; have T1 := rb1.c0; have U1 := rb1.c1
  obtain ⟨rs2, ra2, rn2, rc2, rb2, rh2⟩ := S.at 0 (w.heap.size + 1 + 1 + 1 + 1) (IsI 0 0) rfl; have T2 := rb2.c0; have U2 := rb2.c1
  exact bodyPost_ret (v := .tuple #[.agg #[.bool rs0, .slice ra0 rn0 rc0], .agg #[.bool rs1, .slice ra1 rn1 rc1], .agg #[.bool rs2, .slice ra2 rn2 rc2]]) (by simp [results, Tryz.results10, go_sem, T0, U0, T1, U1, T2, U2]) rfl (⟨_, rfl, S.ext, _, _, _, rfl, rh0, rh1, rh2⟩)

set_option maxRecDepth 100000 in
set_option maxHeartbeats 4000000 in
theorem RBezout_f {k1 k2 : Nat} {z1 z2 : Int} {x y : Value} {w : World} (hx : IsI k1 z1 x w) (hy : IsI k2 z2 y w) (l1 : k1 ≤ 16777216) (l2 : k2 ≤ 16777216) (hz : z2 ≠ 0) : Calls Tryz.prog 10 #[x, y] w (fun e w' => ∃ u v : Int, Ret w (IsT3 (IsI k2 (Int.gcd z1 z2 : Nat)) (IsI k2 u) (IsI (k2 + k1 + 1) v)) e w' ∧
    (Int.gcd z1 z2 : Int) = u * z1 + v * z2 ∧ 0 ≤ u ∧ u < (z2 / (Int.gcd z1 z2 : Int)).natAbs) := by
  have sz2 := hid hy.size
  obtain ⟨s1, a1, n1, c1, rfl, h1⟩ := hx; obtain ⟨s2, a2, n2, c2, rfl, h2⟩ := hy
  have HZ := hid hz
  have HZ0 := hid hz
  have HM := hid (show (z2.natAbs : Int) ≠ 0 by omega)
  have HE := hid (show z1 % (z2.natAbs : Int) = z1 % z2 by rcases Int.natAbs_eq z2 with h | h; · rw [← h]
                                                           · rw [h, Int.natAbs_neg, Int.natAbs_natCast, Int.emod_neg])
  have kt : 1 ≤ k2 := by
    rcases Nat.eq_zero_or_pos k2 with h | h
    · subst h; have := sz2.out; simp at this; omega
    · exact h
  have H1 := hid (show (1 : Int).natAbs < 4294967296 ^ k2 by simpa using Nat.one_lt_pow (by omega) (by decide))
  obtain ⟨gg, hg⟩ : ∃ g, g = Int.gcd z1 z2 := ⟨_, rfl⟩
  have M0 := hid (BzM.start z1 z2 hz)
  have Hd := hid (show ((Int.gcd z1 z2 : Nat) : Int) ∣ z2 from Int.gcd_dvd_right ..)
  rw [← hg] at M0 Hd ⊢
  have Hg := hid hg
  clear hg hz
  obtain ⟨W, hW, S⟩ : ∃ W, W = ((((w.alloc (.cells #[.bool s1, .slice a1 n1 c1] 27)).alloc (.cells #[.bool s2, .slice a2 n2 c2] 27)).alloc (.cells #[.bool false, .slice none 0 0] 27)).alloc (.cells #[.bool false, .slice none 0 0] 27)).alloc (.cells #[.bool false, .slice none 0 0] 27) ∧ St w W [(w.heap.size + 1 + 1 + 1 + 1, IsI 0 0), (w.heap.size + 1 + 1 + 1, IsI 0 0), (w.heap.size + 1 + 1, IsI 0 0), (w.heap.size + 1, IsI k2 z2), (w.heap.size, IsI k1 z1)] := ⟨_, rfl, ((((((St.start w).new' (w.heap.size) (by simp) s1 a1 n1 c1 27 (IsI k1 z1) (IsI.gstb _ _) ⟨_, _, _, _, rfl, h1⟩).new' (w.heap.size + 1) (by simp) s2 a2 n2 c2 27 (IsI k2 z2) (IsI.gstb _ _) ⟨_, _, _, _, rfl, h2.ext ((Ext.refl _).alloc _)⟩).new' (w.heap.size + 1 + 1) (by simp) false none 0 0 27 (IsI 0 0) (IsI.gstb _ _) (IsI.nil _ _)).new' (w.heap.size + 1 + 1 + 1) (by simp) false none 0 0 27 (IsI 0 0) (IsI.gstb _ _) (IsI.nil _ _)).new' (w.heap.size + 1 + 1 + 1 + 1) (by simp) false none 0 0 27 (IsI 0 0) (IsI.gstb _ _) (IsI.nil _ _))⟩
  clear h1 h2
  go_enter Tryz.func10, Tryz.ntmps10
  go_upto_region 1 with (fail)
  rw [← hW]
  clear hW
  refine wp_region_rgs 4 [some 17, some 18, some 19, some 20] [IsV (.pointer (some ⟨w.heap.size + 1, 1, none⟩)), IsMag k2 z2, IsPos, IsV (.bool false)] [] (by decide) (by kernel_rfl) (by kernel_rfl) (by kernel_rfl) ?_ ?_ ?_ ?_
  · repeat' (first | exact trivial | exact IsV.stb _ | exact IsI.stb _ _ | exact IsB.stb _ | exact IsR.stb _ _ | exact IsMag.stb _ _ | exact IsPos.stb | apply IsT3.stb | apply IsT2.stb | apply And.intro)
  · exact (fun _ h => by cases h)
  · refine RgAll.cons (by { (with_reducible refine RgL.mk (by rfl) ?_); intro v a w' hE hd hf; have ev0 := hf.lit 3 (.pointer (some ⟨w.heap.size + 1, 0, none⟩)) (by kernel_rfl) (by kernel_rfl); clear hd hf; intro K hK; go_simp; exact hK.out _ _ (Ext.refl _) rfl (FreshIf.no rfl) }) ?_
    refine RgAll.cons (by { (with_reducible refine RgL.mk (by rfl) ?_); intro v a w' hE hd hf; have d0 : v 0 = .pointer (some ⟨w.heap.size + 1, 1, none⟩) := hd 0 (by kernel_rfl); have ev0 := hf.val 0 17 _ d0 (by kernel_rfl) (by kernel_rfl) (by kernel_rfl); clear d0; obtain ⟨s8, a8, n8, c8, b8, h8⟩ := (S.mono hE).at 3 (w.heap.size + 1) (IsI k2 z2) rfl; have L0 := b8.c0; have L1 := b8.c1; obtain ⟨s9, a9, n9, c9, k9, h9⟩ := h8; injection k9 with k9; simp only [Array.mk.injEq, List.cons.injEq, Value.bool.injEq, Value.slice.injEq, and_true] at k9; obtain ⟨rfl, rfl, rfl, rfl⟩ := k9; clear hd hf; intro K hK; go_simp; exact hK.out _ _ (Ext.refl _) ⟨_, _, _, _, rfl, h9⟩ (FreshIf.no rfl) }) ?_
    refine RgAll.cons (by { (with_reducible refine RgL.mk (by rfl) ?_); intro v a w' hE hd hf; have d0 : (IsMag k2 z2) (v 1) w' := hd 1 (by kernel_rfl); obtain ⟨s9, a9, n9, c9, z0, h9⟩ := d0; have ev0 := hf.val 1 18 _ z0 (by kernel_rfl) (by kernel_rfl) (by kernel_rfl); clear z0; clear hd hf; intro K hK; go_simp; exact hK.out _ _ (Ext.refl _) ⟨n9, rfl, Nat.pos_of_ne_zero (fun h0 => (HZ.out) (h9.zero_iff.2 h0)), h9.len⟩ (FreshIf.no rfl) }) ?_
    refine RgAll.cons (by { (with_reducible refine RgL.mk (by rfl) ?_); intro v a w' hE hd hf; have d0 : IsPos (v 2) w' := hd 2 (by kernel_rfl); obtain ⟨n9, z0, p9, q9⟩ := d0; have ev0 := hf.val 2 19 _ z0 (by kernel_rfl) (by kernel_rfl) (by kernel_rfl); clear z0; have hb9 : ((n9 : Int) == 0) = false := (by rw [beq_eq_false_iff_ne]; omega); have hb8 : decide ((0 : Int) < (n9 : Int)) = true := (by simp; omega); have hb7 : decide (0 < n9) = true := (by simp; omega); have hb6 : (n9 == 0) = false := (by rw [beq_eq_false_iff_ne]; omega); clear hd hf; intro K hK; go_simp; exact hK.out _ _ (Ext.refl _) rfl (FreshIf.no rfl) }) ?_
    exact RgAll.nil
  intro v W1 e1 hΦ _
  replace S := S.mono e1
  have v3 : v 3 = .bool false := hΦ 3 (by decide)
  simp only [layL, Act.put, List.setIfInBounds_toArray, List.set_cons_zero, List.set_cons_succ, Nat.reduceAdd]
  rw [v3]
  clear v3
  clear hΦ
  clear e1
  refine wpList_nil ?_
  go_upto_region 3 with (fail)
  have hl := hid S.lt; have hw := S.ext.size
  refine wp_region_rgs 3 [some 27, some 28, some 7] [IsI k2 z2, IsI k2 z2.natAbs, IsB W1] [2] (by decide) (by kernel_rfl) (by kernel_rfl) (by kernel_rfl) ?_ ?_ ?_ ?_
  · repeat' (first | exact trivial | exact IsV.stb _ | exact IsI.stb _ _ | exact IsB.stb _ | exact IsR.stb _ _ | exact IsMag.stb _ _ | exact IsPos.stb | apply IsT3.stb | apply IsT2.stb | apply And.intro)
  · intro i hi; simp only [List.mem_cons, List.not_mem_nil, or_false] at hi; subst hi; exact IsB.box _
  · refine RgAll.cons (by { (with_reducible refine RgL.mk (by rfl) ?_); intro v a w' hE hd hf; have ev0 := hf.lit 3 (.pointer (some ⟨w.heap.size + 1, 0, none⟩)) (by kernel_rfl) (by kernel_rfl); obtain ⟨s8, a8, n8, c8, b8, h8⟩ := (S.mono hE).at 3 (w.heap.size + 1) (IsI k2 z2) rfl; have L0 := b8.c0; have L1 := b8.c1; clear hd hf; intro K hK; go_simp; exact hK.out _ _ (Ext.refl _) h8 (FreshIf.no rfl) }) ?_
    refine RgAll.cons (by { (with_reducible refine RgL.mk (by rfl) ?_); intro v a w' hE hd hf; have d0 : (IsI k2 z2) (v 0) w' := hd 0 (by kernel_rfl); have ev0 := hf.val 0 27 _ rfl (by kernel_rfl) (by kernel_rfl) (by kernel_rfl); clear hd hf; intro K hK; go_simp; go_at_call 22; go_split_ands; (with_reducible refine Calls.mono (RAbs_f d0) ?_); rintro e w2 ⟨x, rfl, e2, hx⟩; exact hK.out _ _ e2 hx (FreshIf.no rfl) }) ?_
    refine RgAll.cons (by { (with_reducible refine RgL.mk (by rfl) ?_); intro v a w' hE hd hf; skip; clear hd hf; intro K hK; go_simp; refine hK.out _ _ ((Ext.refl _).alloc _) ⟨_, rfl, hE.size, Bx.new _ _ _ _ _⟩ FreshIf.yes }) ?_
    exact RgAll.nil
  intro v W2 e1 hΦ _
  replace S := S.mono e1
  obtain ⟨s28, a28, n28, c28, v1, h28⟩ := (hΦ 1 (by decide) : IsI k2 z2.natAbs (v 1) W2)
  obtain ⟨g7, v2, q2, b1⟩ := (hΦ 2 (by decide) : IsB W1 (v 2) W2)
  replace S := S.addN (Apart.old hl.out q2) (Nat.le_trans hw q2) b1
  clear b1
  simp only [layL, Act.put, List.setIfInBounds_toArray, List.set_cons_zero, List.set_cons_succ, Nat.reduceAdd]
  rw [v1, v2]
  clear v1 v2
  clear hΦ
  clear hl hw
  clear e1
  obtain ⟨s8, a8, n8, c8, b8, _⟩ := S.at 0 (g7) (IsI 0 0) rfl; have F1 := b8.c0; have F2 := b8.c1; have F3 := b8.f0; have F4 := b8.f1
  refine wpList_step fun K hK => ?_; go_simp; refine hK _ _ ?_; clear hK K
  clear F1 F2 F3 F4 b8
  obtain ⟨W3, hW, S2, G2, _⟩ := S.put 0 (g7) (IsI 0 0) (IsI k2 z2.natAbs) rfl s28 a28 n28 c28 (IsI.gstb _ _) ⟨_, _, _, _, rfl, h28⟩
  rw [← hW]; clear hW S
  have S : St w W3 [(g7, IsI k2 z2.natAbs), (w.heap.size + 1 + 1 + 1 + 1, IsI 0 0), (w.heap.size + 1 + 1 + 1, IsI 0 0), (w.heap.size + 1 + 1, IsI 0 0), (w.heap.size + 1, IsI k2 z2), (w.heap.size, IsI k1 z1)] := S2; clear S2 G2
  clear h28
  refine wpList_nil ?_
  go_upto_region 4 with (fail)
  have hl := hid S.lt; have hw := S.ext.size
  refine wp_region_rgs 4 [some 29, some 30, some 31, some 8] [IsI k1 z1, IsI k2 z2.natAbs, IsI k2 (z1 % z2), IsB W3] [3] (by decide) (by kernel_rfl) (by kernel_rfl) (by kernel_rfl) ?_ ?_ ?_ ?_
  · repeat' (first | exact trivial | exact IsV.stb _ | exact IsI.stb _ _ | exact IsB.stb _ | exact IsR.stb _ _ | exact IsMag.stb _ _ | exact IsPos.stb | apply IsT3.stb | apply IsT2.stb | apply And.intro)
  · intro i hi; simp only [List.mem_cons, List.not_mem_nil, or_false] at hi; subst hi; exact IsB.box _
  · refine RgAll.cons (by { (with_reducible refine RgL.mk (by rfl) ?_); intro v a w' hE hd hf; have ev0 := hf.lit 2 (.pointer (some ⟨w.heap.size, 0, none⟩)) (by kernel_rfl) (by kernel_rfl); obtain ⟨s8, a8, n8, c8, b8, h8⟩ := (S.mono hE).at 5 (w.heap.size) (IsI k1 z1) rfl; have L0 := b8.c0; have L1 := b8.c1; clear hd hf; intro K hK; go_simp; exact hK.out _ _ (Ext.refl _) h8 (FreshIf.no rfl) }) ?_
    refine RgAll.cons (by { (with_reducible refine RgL.mk (by rfl) ?_); intro v a w' hE hd hf; have ev0 := hf.lit 7 (.pointer (some ⟨g7, 0, none⟩)) (by kernel_rfl) (by kernel_rfl); obtain ⟨s8, a8, n8, c8, b8, h8⟩ := (S.mono hE).at 0 (g7) (IsI k2 z2.natAbs) rfl; have L0 := b8.c0; have L1 := b8.c1; clear hd hf; intro K hK; go_simp; exact hK.out _ _ (Ext.refl _) h8 (FreshIf.no rfl) }) ?_
    refine RgAll.cons (by { (with_reducible refine RgL.mk (by rfl) ?_); intro v a w' hE hd hf; have d0 : (IsI k1 z1) (v 0) w' := hd 0 (by kernel_rfl); have ev0 := hf.val 0 29 _ rfl (by kernel_rfl) (by kernel_rfl) (by kernel_rfl); have d1 : (IsI k2 z2.natAbs) (v 1) w' := hd 1 (by kernel_rfl); have ev1 := hf.val 1 30 _ rfl (by kernel_rfl) (by kernel_rfl) (by kernel_rfl); clear hd hf; intro K hK; go_simp; go_at_call 46; go_split_ands; (with_reducible refine Calls.mono (Calls.mono (RMod_f d0 d1 (by omega) (by omega) HM.out) fun _ _ h => h.eqz HE.out) ?_); rintro e w2 ⟨x, rfl, e2, hx⟩; exact hK.out _ _ e2 hx (FreshIf.no rfl) }) ?_
    refine RgAll.cons (by { (with_reducible refine RgL.mk (by rfl) ?_); intro v a w' hE hd hf; skip; clear hd hf; intro K hK; go_simp; refine hK.out _ _ ((Ext.refl _).alloc _) ⟨_, rfl, hE.size, Bx.new _ _ _ _ _⟩ FreshIf.yes }) ?_
    exact RgAll.nil
  intro v W4 e1 hΦ _
  replace S := S.mono e1
  obtain ⟨s31, a31, n31, c31, v2, h31⟩ := (hΦ 2 (by decide) : IsI k2 (z1 % z2) (v 2) W4)
  obtain ⟨g8, v3, q4, b3⟩ := (hΦ 3 (by decide) : IsB W3 (v 3) W4)
  replace S := S.addN (Apart.old hl.out q4) (Nat.le_trans hw q4) b3
  clear b3
  simp only [layL, Act.put, List.setIfInBounds_toArray, List.set_cons_zero, List.set_cons_succ, Nat.reduceAdd]
  rw [v2, v3]
  clear v2 v3
  clear hΦ
  clear hl hw
  clear e1
  obtain ⟨s8, a8, n8, c8, b8, _⟩ := S.at 0 (g8) (IsI 0 0) rfl; have F1 := b8.c0; have F2 := b8.c1; have F3 := b8.f0; have F4 := b8.f1
  refine wpList_step fun K hK => ?_; go_simp; refine hK _ _ ?_; clear hK K
  clear F1 F2 F3 F4 b8
  obtain ⟨W5, hW, S2, G2, _⟩ := S.put 0 (g8) (IsI 0 0) (IsI k2 (z1 % z2)) rfl s31 a31 n31 c31 (IsI.gstb _ _) ⟨_, _, _, _, rfl, h31⟩
  rw [← hW]; clear hW S
  have S : St w W5 [(g8, IsI k2 (z1 % z2)), (g7, IsI k2 z2.natAbs), (w.heap.size + 1 + 1 + 1 + 1, IsI 0 0), (w.heap.size + 1 + 1 + 1, IsI 0 0), (w.heap.size + 1 + 1, IsI 0 0), (w.heap.size + 1, IsI k2 z2), (w.heap.size, IsI k1 z1)] := S2; clear S2 G2
  clear h31
  refine wpList_nil ?_
  go_upto_region 5 with (fail)
  have hl := hid S.lt; have hw := S.ext.size
  refine wp_region_rgs 2 [some 32, some 9] [IsI k2 z2.natAbs, IsB W5] [1] (by decide) (by kernel_rfl) (by kernel_rfl) (by kernel_rfl) ?_ ?_ ?_ ?_
  · repeat' (first | exact trivial | exact IsV.stb _ | exact IsI.stb _ _ | exact IsB.stb _ | exact IsR.stb _ _ | exact IsMag.stb _ _ | exact IsPos.stb | apply IsT3.stb | apply IsT2.stb | apply And.intro)
  · intro i hi; simp only [List.mem_cons, List.not_mem_nil, or_false] at hi; subst hi; exact IsB.box _
  · refine RgAll.cons (by { (with_reducible refine RgL.mk (by rfl) ?_); intro v a w' hE hd hf; have ev0 := hf.lit 7 (.pointer (some ⟨g7, 0, none⟩)) (by kernel_rfl) (by kernel_rfl); obtain ⟨s8, a8, n8, c8, b8, h8⟩ := (S.mono hE).at 1 (g7) (IsI k2 z2.natAbs) rfl; have L0 := b8.c0; have L1 := b8.c1; clear hd hf; intro K hK; go_simp; exact hK.out _ _ (Ext.refl _) h8 (FreshIf.no rfl) }) ?_
    refine RgAll.cons (by { (with_reducible refine RgL.mk (by rfl) ?_); intro v a w' hE hd hf; skip; clear hd hf; intro K hK; go_simp; refine hK.out _ _ ((Ext.refl _).alloc _) ⟨_, rfl, hE.size, Bx.new _ _ _ _ _⟩ FreshIf.yes }) ?_
    exact RgAll.nil
  intro v W6 e1 hΦ _
  replace S := S.mono e1
  obtain ⟨s32, a32, n32, c32, v0, h32⟩ := (hΦ 0 (by decide) : IsI k2 z2.natAbs (v 0) W6)
  obtain ⟨g9, v1, q6, b5⟩ := (hΦ 1 (by decide) : IsB W5 (v 1) W6)
  replace S := S.addN (Apart.old hl.out q6) (Nat.le_trans hw q6) b5
  clear b5
  simp only [layL, Act.put, List.setIfInBounds_toArray, List.set_cons_zero, List.set_cons_succ, Nat.reduceAdd]
  rw [v0, v1]
  clear v0 v1
  clear hΦ
  clear hl hw
  clear e1
  obtain ⟨s8, a8, n8, c8, b8, _⟩ := S.at 0 (g9) (IsI 0 0) rfl; have F1 := b8.c0; have F2 := b8.c1; have F3 := b8.f0; have F4 := b8.f1
  refine wpList_step fun K hK => ?_; go_simp; refine hK _ _ ?_; clear hK K
  clear F1 F2 F3 F4 b8
  obtain ⟨W7, hW, S2, G2, _⟩ := S.put 0 (g9) (IsI 0 0) (IsI k2 z2.natAbs) rfl s32 a32 n32 c32 (IsI.gstb _ _) ⟨_, _, _, _, rfl, h32⟩
  rw [← hW]; clear hW S
  have S : St w W7 [(g9, IsI k2 z2.natAbs), (g8, IsI k2 (z1 % z2)), (g7, IsI k2 z2.natAbs), (w.heap.size + 1 + 1 + 1 + 1, IsI 0 0), (w.heap.size + 1 + 1 + 1, IsI 0 0), (w.heap.size + 1 + 1, IsI 0 0), (w.heap.size + 1, IsI k2 z2), (w.heap.size, IsI k1 z1)] := S2; clear S2 G2
  clear h32
  refine wpList_nil ?_
  go_upto_region 6 with (fail)
  have hl := hid S.lt; have hw := S.ext.size
  refine wp_region_rgs 2 [some 33, some 10] [IsI k2 1, IsB W7] [1] (by decide) (by kernel_rfl) (by kernel_rfl) (by kernel_rfl) ?_ ?_ ?_ ?_
  · repeat' (first | exact trivial | exact IsV.stb _ | exact IsI.stb _ _ | exact IsB.stb _ | exact IsR.stb _ _ | exact IsMag.stb _ _ | exact IsPos.stb | apply IsT3.stb | apply IsT2.stb | apply And.intro)
  · intro i hi; simp only [List.mem_cons, List.not_mem_nil, or_false] at hi; subst hi; exact IsB.box _
  · refine RgAll.cons (by { (with_reducible refine RgL.mk (by rfl) ?_); intro v a w' hE hd hf; skip; clear hd hf; intro K hK; go_simp; go_at_call 35; go_split_ands; (with_reducible refine Calls.mono (Calls.mono (ROf_f _ 1 (by decide) (by decide)) fun _ _ h => h.mono fun _ _ h => h.tight (k' := k2) H1.out) ?_); rintro e w2 ⟨x, rfl, e2, hx⟩; exact hK.out _ _ e2 hx (FreshIf.no rfl) }) ?_
    refine RgAll.cons (by { (with_reducible refine RgL.mk (by rfl) ?_); intro v a w' hE hd hf; skip; clear hd hf; intro K hK; go_simp; refine hK.out _ _ ((Ext.refl _).alloc _) ⟨_, rfl, hE.size, Bx.new _ _ _ _ _⟩ FreshIf.yes }) ?_
    exact RgAll.nil
  intro v W8 e1 hΦ _
  replace S := S.mono e1
  obtain ⟨s33, a33, n33, c33, v0, h33⟩ := (hΦ 0 (by decide) : IsI k2 1 (v 0) W8)
  obtain ⟨g10, v1, q8, b7⟩ := (hΦ 1 (by decide) : IsB W7 (v 1) W8)
  replace S := S.addN (Apart.old hl.out q8) (Nat.le_trans hw q8) b7
  clear b7
  simp only [layL, Act.put, List.setIfInBounds_toArray, List.set_cons_zero, List.set_cons_succ, Nat.reduceAdd]
  rw [v0, v1]
  clear v0 v1
  clear hΦ
  clear hl hw
  clear e1
  obtain ⟨s8, a8, n8, c8, b8, _⟩ := S.at 0 (g10) (IsI 0 0) rfl; have F1 := b8.c0; have F2 := b8.c1; have F3 := b8.f0; have F4 := b8.f1
  refine wpList_step fun K hK => ?_; go_simp; refine hK _ _ ?_; clear hK K
  clear F1 F2 F3 F4 b8
  obtain ⟨W9, hW, S2, G2, _⟩ := S.put 0 (g10) (IsI 0 0) (IsI k2 1) rfl s33 a33 n33 c33 (IsI.gstb _ _) ⟨_, _, _, _, rfl, h33⟩
  rw [← hW]; clear hW S
  have S : St w W9 [(g10, IsI k2 1), (g9, IsI k2 z2.natAbs), (g8, IsI k2 (z1 % z2)), (g7, IsI k2 z2.natAbs), (w.heap.size + 1 + 1 + 1 + 1, IsI 0 0), (w.heap.size + 1 + 1 + 1, IsI 0 0), (w.heap.size + 1 + 1, IsI 0 0), (w.heap.size + 1, IsI k2 z2), (w.heap.size, IsI k1 z1)] := S2; clear S2 G2
  clear h33
  refine wpList_nil ?_
  go_upto_region 7 with (fail)
  have hl := hid S.lt; have hw := S.ext.size
  refine wp_region_rgs 2 [some 34, some 11] [IsI k2 0, IsB W9] [1] (by decide) (by kernel_rfl) (by kernel_rfl) (by kernel_rfl) ?_ ?_ ?_ ?_
  · repeat' (first | exact trivial | exact IsV.stb _ | exact IsI.stb _ _ | exact IsB.stb _ | exact IsR.stb _ _ | exact IsMag.stb _ _ | exact IsPos.stb | apply IsT3.stb | apply IsT2.stb | apply And.intro)
  · intro i hi; simp only [List.mem_cons, List.not_mem_nil, or_false] at hi; subst hi; exact IsB.box _
  · refine RgAll.cons (by { (with_reducible refine RgL.mk (by rfl) ?_); intro v a w' hE hd hf; skip; clear hd hf; intro K hK; go_simp; exact hK.out _ _ (Ext.refl _) (IsI.nil _ _) (FreshIf.no rfl) }) ?_
    refine RgAll.cons (by { (with_reducible refine RgL.mk (by rfl) ?_); intro v a w' hE hd hf; skip; clear hd hf; intro K hK; go_simp; refine hK.out _ _ ((Ext.refl _).alloc _) ⟨_, rfl, hE.size, Bx.new _ _ _ _ _⟩ FreshIf.yes }) ?_
    exact RgAll.nil
  intro v W10 e1 hΦ _
  replace S := S.mono e1
  obtain ⟨s34, a34, n34, c34, v0, h34⟩ := (hΦ 0 (by decide) : IsI k2 0 (v 0) W10)
  obtain ⟨g11, v1, q10, b9⟩ := (hΦ 1 (by decide) : IsB W9 (v 1) W10)
  replace S := S.addN (Apart.old hl.out q10) (Nat.le_trans hw q10) b9
  clear b9
  simp only [layL, Act.put, List.setIfInBounds_toArray, List.set_cons_zero, List.set_cons_succ, Nat.reduceAdd]
  rw [v0, v1]
  clear v0 v1
  clear hΦ
  clear hl hw
  clear e1
  obtain ⟨s8, a8, n8, c8, b8, _⟩ := S.at 0 (g11) (IsI 0 0) rfl; have F1 := b8.c0; have F2 := b8.c1; have F3 := b8.f0; have F4 := b8.f1
  refine wpList_step fun K hK => ?_; go_simp; refine hK _ _ ?_; clear hK K
  clear F1 F2 F3 F4 b8
  obtain ⟨W11, hW, S2, G2, _⟩ := S.put 0 (g11) (IsI 0 0) (IsI k2 0) rfl s34 a34 n34 c34 (IsI.gstb _ _) ⟨_, _, _, _, rfl, h34⟩
  rw [← hW]; clear hW S
  have S : St w W11 [(g11, IsI k2 0), (g10, IsI k2 1), (g9, IsI k2 z2.natAbs), (g8, IsI k2 (z1 % z2)), (g7, IsI k2 z2.natAbs), (w.heap.size + 1 + 1 + 1 + 1, IsI 0 0), (w.heap.size + 1 + 1 + 1, IsI 0 0), (w.heap.size + 1 + 1, IsI 0 0), (w.heap.size + 1, IsI k2 z2), (w.heap.size, IsI k1 z1)] := S2; clear S2 G2
  clear h34
  refine wpList_nil ?_
  go_wp2_with fail
  have S0 := hid S; clear S
  go_loopg [] (z1 % z2).natAbs (fun gk wr => ∃ X Y U T : Int, Y.natAbs = gk ∧ Hid (BzM z1 z2 gg X Y U T) ∧ Hid (St w wr [(g11, IsI k2 U), (g10, IsI k2 T), (g9, IsI k2 X), (g8, IsI k2 Y), (g7, IsI k2 z2.natAbs), (w.heap.size + 1 + 1 + 1 + 1, IsI 0 0), (w.heap.size + 1 + 1 + 1, IsI 0 0), (w.heap.size + 1 + 1, IsI 0 0), (w.heap.size + 1, IsI k2 z2), (w.heap.size, IsI k1 z1)]))
  case atStart => exact ⟨_, _, _, _, rfl, M0, S0⟩
  case round =>
    clear S0 M0
    obtain ⟨X, Y, U, T, hgk, M, S⟩ := hrel
    have S := S.out
    by_cases hY : Y = 0
    · skip
      subst hY
      have H := hid (M.out.fin HZ0.out Hg.out)
      have hx0 : X ≠ 0 := by have := M.out.x0; omega
      have HX0 := hid hx0
      have hap := abs_period z2 X U hx0 (H.out.1 ▸ Hd.out)
      have HP0 := hid (show (z2.natAbs : Int) / X ≠ 0 from fun h => H.out.2.1 (hap.1.1 h))
      have HPm := hid hap.2
      obtain ⟨u', hu'⟩ : ∃ u', u' = U % (z2 / X) := ⟨_, rfl⟩
      have HU := hid hu'
      have hv := hid (by have h1 := Int.emod_add_mul_ediv (X - U % (z2 / X) * z1) z2; rw [H.out.2.2] at h1; exact h1)
      have hu0 := hid (And.intro (Int.emod_nonneg U H.out.2.1) (Int.emod_lt U H.out.2.1))
      rw [← hu'] at HPm hv hu0
      clear hx0 hap hu' hgk
      go_upto_region 8 with (fail)
      refine wp_region_rgs 4 [some 35, some 36, some 37, some 38] [IsV (.pointer (some ⟨g8, 1, none⟩)), IsMag k2 0, IsV (.int .i64 0), IsV (.bool false)] [] (by decide) (by kernel_rfl) (by kernel_rfl) (by kernel_rfl) ?_ ?_ ?_ ?_
      · repeat' (first | exact trivial | exact IsV.stb _ | exact IsI.stb _ _ | exact IsB.stb _ | exact IsR.stb _ _ | exact IsMag.stb _ _ | exact IsPos.stb | apply IsT3.stb | apply IsT2.stb | apply And.intro)
      · exact (fun _ h => by cases h)
      · refine RgAll.cons (by { (with_reducible refine RgL.mk (by rfl) ?_); intro v a w' hE hd hf; have ev0 := hf.lit 8 (.pointer (some ⟨g8, 0, none⟩)) (by kernel_rfl) (by kernel_rfl); clear hd hf; intro K hK; go_simp; exact hK.out _ _ (Ext.refl _) rfl (FreshIf.no rfl) }) ?_
        refine RgAll.cons (by { (with_reducible refine RgL.mk (by rfl) ?_); intro v a w' hE hd hf; have d0 : v 0 = .pointer (some ⟨g8, 1, none⟩) := hd 0 (by kernel_rfl); have ev0 := hf.val 0 35 _ d0 (by kernel_rfl) (by kernel_rfl) (by kernel_rfl); clear d0; obtain ⟨s8, a8, n8, c8, b8, h8⟩ := (S.mono hE).at 3 (g8) (IsI k2 0) rfl; have L0 := b8.c0; have L1 := b8.c1; obtain ⟨s9, a9, n9, c9, k9, h9⟩ := h8; injection k9 with k9; simp only [Array.mk.injEq, List.cons.injEq, Value.bool.injEq, Value.slice.injEq, and_true] at k9; obtain ⟨rfl, rfl, rfl, rfl⟩ := k9; clear hd hf; intro K hK; go_simp; exact hK.out _ _ (Ext.refl _) ⟨_, _, _, _, rfl, h9⟩ (FreshIf.no rfl) }) ?_
        refine RgAll.cons (by { (with_reducible refine RgL.mk (by rfl) ?_); intro v a w' hE hd hf; have d0 : (IsMag k2 0) (v 1) w' := hd 1 (by kernel_rfl); obtain ⟨s9, a9, n9, c9, z0, h9⟩ := d0; have ev0 := hf.val 1 36 _ z0 (by kernel_rfl) (by kernel_rfl) (by kernel_rfl); clear z0; obtain rfl : n9 = 0 := h9.zero_iff.1 (rfl); clear hd hf; intro K hK; go_simp; exact hK.out _ _ (Ext.refl _) rfl (FreshIf.no rfl) }) ?_
        refine RgAll.cons (by { (with_reducible refine RgL.mk (by rfl) ?_); intro v a w' hE hd hf; have d0 : v 2 = .int .i64 0 := hd 2 (by kernel_rfl); have ev0 := hf.val 2 37 _ d0 (by kernel_rfl) (by kernel_rfl) (by kernel_rfl); clear d0; clear hd hf; intro K hK; go_simp; exact hK.out _ _ (Ext.refl _) rfl (FreshIf.no rfl) }) ?_
        exact RgAll.nil
      intro v W12 e1 hΦ _
      replace S := S.mono e1
      have v3 : v 3 = .bool false := hΦ 3 (by decide)
      simp only [layL, Act.put, List.setIfInBounds_toArray, List.set_cons_zero, List.set_cons_succ, Nat.reduceAdd]
      rw [v3]
      clear v3
      clear hΦ
      clear e1
      refine wpList_nil ?_
      go_upto_region 15 with (fail)
      have hl := hid S.lt; have hw := S.ext.size
      refine wp_region_rgs 2 [some 55, some 16] [IsI k2 X, IsB W12] [1] (by decide) (by kernel_rfl) (by kernel_rfl) (by kernel_rfl) ?_ ?_ ?_ ?_
      · repeat' (first | exact trivial | exact IsV.stb _ | exact IsI.stb _ _ | exact IsB.stb _ | exact IsR.stb _ _ | exact IsMag.stb _ _ | exact IsPos.stb | apply IsT3.stb | apply IsT2.stb | apply And.intro)
      · intro i hi; simp only [List.mem_cons, List.not_mem_nil, or_false] at hi; subst hi; exact IsB.box _
      · refine RgAll.cons (by { (with_reducible refine RgL.mk (by rfl) ?_); intro v a w' hE hd hf; have ev0 := hf.lit 9 (.pointer (some ⟨g9, 0, none⟩)) (by kernel_rfl) (by kernel_rfl); obtain ⟨s8, a8, n8, c8, b8, h8⟩ := (S.mono hE).at 2 (g9) (IsI k2 X) rfl; have L0 := b8.c0; have L1 := b8.c1; clear hd hf; intro K hK; go_simp; exact hK.out _ _ (Ext.refl _) h8 (FreshIf.no rfl) }) ?_
        refine RgAll.cons (by { (with_reducible refine RgL.mk (by rfl) ?_); intro v a w' hE hd hf; skip; clear hd hf; intro K hK; go_simp; refine hK.out _ _ ((Ext.refl _).alloc _) ⟨_, rfl, hE.size, Bx.new _ _ _ _ _⟩ FreshIf.yes }) ?_
        exact RgAll.nil
      intro v W13 e1 hΦ _
      replace S := S.mono e1
      obtain ⟨s55, a55, n55, c55, v0, h55⟩ := (hΦ 0 (by decide) : IsI k2 X (v 0) W13)
      obtain ⟨g16, v1, q12, b11⟩ := (hΦ 1 (by decide) : IsB W12 (v 1) W13)
      replace S := S.addN (Apart.old hl.out q12) (Nat.le_trans hw q12) b11
      clear b11
      simp only [layL, Act.put, List.setIfInBounds_toArray, List.set_cons_zero, List.set_cons_succ, Nat.reduceAdd]
      rw [v0, v1]
      clear v0 v1
      clear hΦ
      clear hl hw
      clear e1
      obtain ⟨s8, a8, n8, c8, b8, _⟩ := S.at 0 (g16) (IsI 0 0) rfl; have F1 := b8.c0; have F2 := b8.c1; have F3 := b8.f0; have F4 := b8.f1
      refine wpList_step fun K hK => ?_; go_simp; refine hK _ _ ?_; clear hK K
      clear F1 F2 F3 F4 b8
      obtain ⟨W14, hW, S2, G2, _⟩ := S.put 0 (g16) (IsI 0 0) (IsI k2 X) rfl s55 a55 n55 c55 (IsI.gstb _ _) ⟨_, _, _, _, rfl, h55⟩
      rw [← hW]; clear hW S
      have S : St w W14 [(g16, IsI k2 X), (g11, IsI k2 U), (g10, IsI k2 T), (g9, IsI k2 X), (g8, IsI k2 0), (g7, IsI k2 z2.natAbs), (w.heap.size + 1 + 1 + 1 + 1, IsI 0 0), (w.heap.size + 1 + 1 + 1, IsI 0 0), (w.heap.size + 1 + 1, IsI 0 0), (w.heap.size + 1, IsI k2 z2), (w.heap.size, IsI k1 z1)] := S2; clear S2 G2
      clear h55
      refine wpList_nil ?_
      go_upto_region 16 with (fail)
      refine wp_region_rg 5 [some 56, some 57, some 58, some 59, some 60] [IsI k2 U, IsI k2 z2.natAbs, IsI k2 X, IsI k2 (z2.natAbs / X), IsI k2 u'] [] 1 (by kernel_rfl) (by decide) (by kernel_rfl) (by kernel_rfl) (by kernel_rfl) (by kernel_rfl) (by kernel_rfl) ?_ ?_ ?_ ?_
      · repeat' (first | exact trivial | exact IsV.stb _ | exact IsI.stb _ _ | exact IsB.stb _ | exact IsR.stb _ _ | exact IsMag.stb _ _ | exact IsPos.stb | apply IsT3.stb | apply IsT2.stb | apply And.intro)
      · exact (fun _ h => by cases h)
      · refine RgAll.cons (by { (with_reducible refine RgL.mk (by rfl) ?_); intro v a w' hE hd hf; have ev0 := hf.lit 11 (.pointer (some ⟨g11, 0, none⟩)) (by kernel_rfl) (by kernel_rfl); obtain ⟨s8, a8, n8, c8, b8, h8⟩ := (S.mono hE).at 1 (g11) (IsI k2 U) rfl; have L0 := b8.c0; have L1 := b8.c1; clear hd hf; intro K hK; go_simp; exact hK.out _ _ (Ext.refl _) h8 (FreshIf.no rfl) }) ?_
        refine RgAll.cons (by { (with_reducible refine RgL.mk (by rfl) ?_); intro v a w' hE hd hf; have ev0 := hf.lit 7 (.pointer (some ⟨g7, 0, none⟩)) (by kernel_rfl) (by kernel_rfl); obtain ⟨s8, a8, n8, c8, b8, h8⟩ := (S.mono hE).at 5 (g7) (IsI k2 z2.natAbs) rfl; have L0 := b8.c0; have L1 := b8.c1; clear hd hf; intro K hK; go_simp; exact hK.out _ _ (Ext.refl _) h8 (FreshIf.no rfl) }) ?_
        refine RgAll.cons (by { (with_reducible refine RgL.mk (by rfl) ?_); intro v a w' hE hd hf; have ev0 := hf.lit 16 (.pointer (some ⟨g16, 0, none⟩)) (by kernel_rfl) (by kernel_rfl); obtain ⟨s8, a8, n8, c8, b8, h8⟩ := (S.mono hE).at 0 (g16) (IsI k2 X) rfl; have L0 := b8.c0; have L1 := b8.c1; clear hd hf; intro K hK; go_simp; exact hK.out _ _ (Ext.refl _) h8 (FreshIf.no rfl) }) ?_
        refine RgAll.cons (by { (with_reducible refine RgL.mk (by rfl) ?_); intro v a w' hE hd hf; have d0 : (IsI k2 z2.natAbs) (v 1) w' := hd 1 (by kernel_rfl); have ev0 := hf.val 1 57 _ rfl (by kernel_rfl) (by kernel_rfl) (by kernel_rfl); have d1 : (IsI k2 X) (v 2) w' := hd 2 (by kernel_rfl); have ev1 := hf.val 2 58 _ rfl (by kernel_rfl) (by kernel_rfl) (by kernel_rfl); clear hd hf; intro K hK; go_simp; go_at_call 47; go_split_ands; (with_reducible refine Calls.mono (RDiv_f d0 d1 (by omega) (by omega) HX0.out) ?_); rintro e w2 ⟨x, rfl, e2, hx⟩; exact hK.out _ _ e2 hx (FreshIf.no rfl) }) ?_
        refine RgAll.cons (by { (with_reducible refine RgL.mk (by rfl) ?_); intro v a w' hE hd hf; have d0 : (IsI k2 U) (v 0) w' := hd 0 (by kernel_rfl); have ev0 := hf.val 0 56 _ rfl (by kernel_rfl) (by kernel_rfl) (by kernel_rfl); have d1 : (IsI k2 (z2.natAbs / X)) (v 3) w' := hd 3 (by kernel_rfl); have ev1 := hf.val 3 59 _ rfl (by kernel_rfl) (by kernel_rfl) (by kernel_rfl); clear hd hf; intro K hK; go_simp; go_at_call 46; go_split_ands; (with_reducible refine Calls.mono (Calls.mono (RMod_f d0 d1 (by omega) (by omega) HP0.out) fun _ _ h => h.eqz HPm.out) ?_); rintro e w2 ⟨x, rfl, e2, hx⟩; exact hK.out _ _ e2 hx (FreshIf.no rfl) }) ?_
        exact RgAll.nil
      intro v W15 e1 hΦ _
      replace S := S.mono e1
      obtain ⟨s60, a60, n60, c60, v4, h60⟩ := (hΦ 4 (by decide) : IsI k2 u' (v 4) W15)
      simp only [layL, Act.put, List.setIfInBounds_toArray, List.set_cons_zero, List.set_cons_succ, Nat.reduceAdd]
      rw [v4]
      clear v4
      clear hΦ
      clear e1
      obtain ⟨s8, a8, n8, c8, b8, _⟩ := S.at 1 (g11) (IsI k2 U) rfl; have F1 := b8.c0; have F2 := b8.c1; have F3 := b8.f0; have F4 := b8.f1
      refine wpAny_ready (rs := [5]) (by kernel_rfl) (by simp) (AllReady.cons rfl (fun K hK => ?_) AllReady.nil); go_simp; refine hK _ _ ?_; clear hK K
      clear F1 F2 F3 F4 b8
      obtain ⟨W16, hW, S2, G2, _⟩ := S.put 1 (g11) (IsI k2 U) (IsI k2 u') rfl s60 a60 n60 c60 (IsI.gstb _ _) ⟨_, _, _, _, rfl, h60⟩
      rw [← hW]; clear hW S
      have S : St w W16 [(g16, IsI k2 X), (g11, IsI k2 u'), (g10, IsI k2 T), (g9, IsI k2 X), (g8, IsI k2 0), (g7, IsI k2 z2.natAbs), (w.heap.size + 1 + 1 + 1 + 1, IsI 0 0), (w.heap.size + 1 + 1 + 1, IsI 0 0), (w.heap.size + 1 + 1, IsI 0 0), (w.heap.size + 1, IsI k2 z2), (w.heap.size, IsI k1 z1)] := S2; clear S2 G2
      clear h60
      refine wpAny_done (by kernel_rfl) ?_ _
      go_upto_region 17 with (fail)
      have XB0 : ∃ s a n c, Bx W16 (w.heap.size + 1 + 1) s a n c := by obtain ⟨s, a, n, c, b, _⟩ := S.at 8 (w.heap.size + 1 + 1) (IsI 0 0) rfl; exact ⟨s, a, n, c, b⟩
      have XL0 : w.heap.size ≤ w.heap.size + 1 + 1 := (S.box _ (List.mem_of_getElem? (i := 8) rfl)).1
      have XB1 : ∃ s a n c, Bx W16 (w.heap.size + 1 + 1 + 1) s a n c := by obtain ⟨s, a, n, c, b, _⟩ := S.at 7 (w.heap.size + 1 + 1 + 1) (IsI 0 0) rfl; exact ⟨s, a, n, c, b⟩
      have XL1 : w.heap.size ≤ w.heap.size + 1 + 1 + 1 := (S.box _ (List.mem_of_getElem? (i := 7) rfl)).1
      have XB2 : ∃ s a n c, Bx W16 (w.heap.size + 1 + 1 + 1 + 1) s a n c := by obtain ⟨s, a, n, c, b, _⟩ := S.at 6 (w.heap.size + 1 + 1 + 1 + 1) (IsI 0 0) rfl; exact ⟨s, a, n, c, b⟩
      have XL2 : w.heap.size ≤ w.heap.size + 1 + 1 + 1 + 1 := (S.box _ (List.mem_of_getElem? (i := 6) rfl)).1
      obtain ⟨XS, XM0, XM1, XM2, HXG, HXP, HXN, HXA⟩ := xs3 (w.heap.size + 1 + 1, IsI k2 X) (w.heap.size + 1 + 1 + 1, IsI k2 u') (w.heap.size + 1 + 1 + 1 + 1, IsI (k2 + k1 + 1) ((X - u' * z1) / z2)) (IsI.gstb _ _) (IsI.gstb _ _) (IsI.gstb _ _) (S.ne 8 7 (w.heap.size + 1 + 1, IsI 0 0) (w.heap.size + 1 + 1 + 1, IsI 0 0) rfl rfl (by decide)) (S.ne 8 6 (w.heap.size + 1 + 1, IsI 0 0) (w.heap.size + 1 + 1 + 1 + 1, IsI 0 0) rfl rfl (by decide)) (S.ne 7 6 (w.heap.size + 1 + 1 + 1, IsI 0 0) (w.heap.size + 1 + 1 + 1 + 1, IsI 0 0) rfl rfl (by decide))
      obtain ⟨xs0, xa0, xn0, xc0, xb0, xh0⟩ := S.at 0 (g16) (IsI k2 X) rfl
      have XN0 := HXN (g16) (S.ne 8 0 (w.heap.size + 1 + 1, IsI 0 0) (g16, IsI k2 X) rfl rfl (by decide)) (S.ne 7 0 (w.heap.size + 1 + 1 + 1, IsI 0 0) (g16, IsI k2 X) rfl rfl (by decide)) (S.ne 6 0 (w.heap.size + 1 + 1 + 1 + 1, IsI 0 0) (g16, IsI k2 X) rfl rfl (by decide))
      obtain ⟨xs1, xa1, xn1, xc1, xb1, xh1⟩ := S.at 1 (g11) (IsI k2 u') rfl
      have XN1 := HXN (g11) (S.ne 8 1 (w.heap.size + 1 + 1, IsI 0 0) (g11, IsI k2 u') rfl rfl (by decide)) (S.ne 7 1 (w.heap.size + 1 + 1 + 1, IsI 0 0) (g11, IsI k2 u') rfl rfl (by decide)) (S.ne 6 1 (w.heap.size + 1 + 1 + 1 + 1, IsI 0 0) (g11, IsI k2 u') rfl rfl (by decide))
      obtain ⟨xs2, xa2, xn2, xc2, xb2, xh2⟩ := S.at 10 (w.heap.size) (IsI k1 z1) rfl
      have XN2 := HXN (w.heap.size) (S.ne 8 10 (w.heap.size + 1 + 1, IsI 0 0) (w.heap.size, IsI k1 z1) rfl rfl (by decide)) (S.ne 7 10 (w.heap.size + 1 + 1 + 1, IsI 0 0) (w.heap.size, IsI k1 z1) rfl rfl (by decide)) (S.ne 6 10 (w.heap.size + 1 + 1 + 1 + 1, IsI 0 0) (w.heap.size, IsI k1 z1) rfl rfl (by decide))
      obtain ⟨xs3, xa3, xn3, xc3, xb3, xh3⟩ := S.at 9 (w.heap.size + 1) (IsI k2 z2) rfl
      have XN3 := HXN (w.heap.size + 1) (S.ne 8 9 (w.heap.size + 1 + 1, IsI 0 0) (w.heap.size + 1, IsI k2 z2) rfl rfl (by decide)) (S.ne 7 9 (w.heap.size + 1 + 1 + 1, IsI 0 0) (w.heap.size + 1, IsI k2 z2) rfl rfl (by decide)) (S.ne 6 9 (w.heap.size + 1 + 1 + 1 + 1, IsI 0 0) (w.heap.size + 1, IsI k2 z2) rfl rfl (by decide))
      refine wp_region_rgx (Rx XS) 12 [some 61, some 62, some 63, some 64, some 65, some 66, some 67, some 68, some 69, none, none, none] [IsI k2 X, IsI k2 u', IsI k2 X, IsI k2 u', IsI k1 z1, IsI (k2 + k1) (u' * z1), IsI (k2 + k1 + 1) (X - u' * z1), IsI k2 z2, IsI (k2 + k1 + 1) ((X - u' * z1) / z2), IsHas (w.heap.size + 1 + 1, IsI k2 X), IsHas (w.heap.size + 1 + 1 + 1, IsI k2 u'), IsHas (w.heap.size + 1 + 1 + 1 + 1, IsI (k2 + k1 + 1) ((X - u' * z1) / z2))] (by kernel_rfl) (by kernel_rfl) (by kernel_rfl) (by kernel_rfl) (by kernel_rfl) (by kernel_rfl) Rx.trans (Rx.of HXG) ?_ ?_ ?_
      · exact ⟨StbR.g (IsI.gstb _ _), StbR.g (IsI.gstb _ _), StbR.g (IsI.gstb _ _), StbR.g (IsI.gstb _ _), StbR.g (IsI.gstb _ _), StbR.g (IsI.gstb _ _), StbR.g (IsI.gstb _ _), StbR.g (IsI.gstb _ _), StbR.g (IsI.gstb _ _), StbR.has _ XM0, StbR.has _ XM1, StbR.has _ XM2, trivial⟩
      · refine RgAllx.cons (by { (with_reducible refine RgLx.mk (by rfl) ?_); intro v a w' hR hd hf; have ev0 := hf.lit 16 (.pointer (some ⟨g16, 0, none⟩)) (by kernel_rfl) (by kernel_rfl); have b8 := hR.bx _ _ _ _ _ XN0 xb0; have L0 := b8.c0; have L1 := b8.c1; clear hd hf; intro K hK; go_simp; exact hK.out _ _ (Rx.of HXG (Ext.refl _)) ((IsI.gstb _ _) _ _ _ hR.gr xh0) }) ?_
        refine RgAllx.cons (by { (with_reducible refine RgLx.mk (by rfl) ?_); intro v a w' hR hd hf; have ev0 := hf.lit 11 (.pointer (some ⟨g11, 0, none⟩)) (by kernel_rfl) (by kernel_rfl); have b8 := hR.bx _ _ _ _ _ XN1 xb1; have L0 := b8.c0; have L1 := b8.c1; clear hd hf; intro K hK; go_simp; exact hK.out _ _ (Rx.of HXG (Ext.refl _)) ((IsI.gstb _ _) _ _ _ hR.gr xh1) }) ?_
        refine RgAllx.cons (by { (with_reducible refine RgLx.mk (by rfl) ?_); intro v a w' hR hd hf; have ev0 := hf.lit 16 (.pointer (some ⟨g16, 0, none⟩)) (by kernel_rfl) (by kernel_rfl); have b8 := hR.bx _ _ _ _ _ XN0 xb0; have L0 := b8.c0; have L1 := b8.c1; clear hd hf; intro K hK; go_simp; exact hK.out _ _ (Rx.of HXG (Ext.refl _)) ((IsI.gstb _ _) _ _ _ hR.gr xh0) }) ?_
        refine RgAllx.cons (by { (with_reducible refine RgLx.mk (by rfl) ?_); intro v a w' hR hd hf; have ev0 := hf.lit 11 (.pointer (some ⟨g11, 0, none⟩)) (by kernel_rfl) (by kernel_rfl); have b8 := hR.bx _ _ _ _ _ XN1 xb1; have L0 := b8.c0; have L1 := b8.c1; clear hd hf; intro K hK; go_simp; exact hK.out _ _ (Rx.of HXG (Ext.refl _)) ((IsI.gstb _ _) _ _ _ hR.gr xh1) }) ?_
        refine RgAllx.cons (by { (with_reducible refine RgLx.mk (by rfl) ?_); intro v a w' hR hd hf; have ev0 := hf.lit 2 (.pointer (some ⟨w.heap.size, 0, none⟩)) (by kernel_rfl) (by kernel_rfl); have b8 := hR.bx _ _ _ _ _ XN2 xb2; have L0 := b8.c0; have L1 := b8.c1; clear hd hf; intro K hK; go_simp; exact hK.out _ _ (Rx.of HXG (Ext.refl _)) ((IsI.gstb _ _) _ _ _ hR.gr xh2) }) ?_
        refine RgAllx.cons (by { (with_reducible refine RgLx.mk (by rfl) ?_); intro v a w' hR hd hf; have d0 : (IsI k2 u') (v 3) w' := hd 3 (by kernel_rfl); have ev0 := hf.val 3 64 _ rfl (by kernel_rfl) (by kernel_rfl) (by kernel_rfl); have d1 : (IsI k1 z1) (v 4) w' := hd 4 (by kernel_rfl); have ev1 := hf.val 4 65 _ rfl (by kernel_rfl) (by kernel_rfl) (by kernel_rfl); clear hd hf; intro K hK; go_simp; go_at_call 18; go_split_ands; (with_reducible refine Calls.mono (RMul_f d0 d1 (by omega) (by omega)) ?_); rintro e w2 ⟨x, rfl, e2, hx⟩; exact hK.out _ _ (Rx.of HXG e2) hx }) ?_
        refine RgAllx.cons (by { (with_reducible refine RgLx.mk (by rfl) ?_); intro v a w' hR hd hf; have d0 : (IsI k2 X) (v 2) w' := hd 2 (by kernel_rfl); have ev0 := hf.val 2 63 _ rfl (by kernel_rfl) (by kernel_rfl) (by kernel_rfl); have d1 : (IsI (k2 + k1) (u' * z1)) (v 5) w' := hd 5 (by kernel_rfl); have ev1 := hf.val 5 66 _ rfl (by kernel_rfl) (by kernel_rfl) (by kernel_rfl); clear hd hf; intro K hK; go_simp; go_at_call 16; go_split_ands; (with_reducible refine Calls.mono ((by have hh := RSub_f d0 d1 (by omega) (by omega); rw [Nat.max_eq_right (Nat.le_add_right k2 k1)] at hh; exact hh)) ?_); rintro e w2 ⟨x, rfl, e2, hx⟩; exact hK.out _ _ (Rx.of HXG e2) hx }) ?_
        refine RgAllx.cons (by { (with_reducible refine RgLx.mk (by rfl) ?_); intro v a w' hR hd hf; have ev0 := hf.lit 3 (.pointer (some ⟨w.heap.size + 1, 0, none⟩)) (by kernel_rfl) (by kernel_rfl); have b8 := hR.bx _ _ _ _ _ XN3 xb3; have L0 := b8.c0; have L1 := b8.c1; clear hd hf; intro K hK; go_simp; exact hK.out _ _ (Rx.of HXG (Ext.refl _)) ((IsI.gstb _ _) _ _ _ hR.gr xh3) }) ?_
        refine RgAllx.cons (by { (with_reducible refine RgLx.mk (by rfl) ?_); intro v a w' hR hd hf; have d0 : (IsI (k2 + k1 + 1) (X - u' * z1)) (v 6) w' := hd 6 (by kernel_rfl); have ev0 := hf.val 6 67 _ rfl (by kernel_rfl) (by kernel_rfl) (by kernel_rfl); have d1 : (IsI k2 z2) (v 7) w' := hd 7 (by kernel_rfl); have ev1 := hf.val 7 68 _ rfl (by kernel_rfl) (by kernel_rfl) (by kernel_rfl); clear hd hf; intro K hK; go_simp; go_at_call 47; go_split_ands; (with_reducible refine Calls.mono (RDiv_f d0 d1 (by omega) (by omega) HZ0.out) ?_); rintro e w2 ⟨x, rfl, e2, hx⟩; exact hK.out _ _ (Rx.of HXG e2) hx }) ?_
        refine RgAllx.cons (by { (with_reducible refine RgLx.mk (by rfl) ?_); intro v a w' hR hd hf; have ev0 := hf.lit 4 (.pointer (some ⟨w.heap.size + 1 + 1, 0, none⟩)) (by kernel_rfl) (by kernel_rfl); have d1 : (IsI k2 X) (v 0) w' := hd 0 (by kernel_rfl); obtain ⟨s9, a9, n9, c9, z0, h9⟩ := d1; have ev1 := hf.val 0 61 _ z0 (by kernel_rfl) (by kernel_rfl) (by kernel_rfl); clear z0; obtain ⟨s7, a7, n7, c7, b7⟩ := hR.box _ XM0 XB0; have F1 := b7.c0; have F2 := b7.c1; have F3 := b7.f0; have F4 := b7.f1; clear hd hf; intro K hK; go_simp; obtain ⟨W8, hW8, r8, h8⟩ := Rx.put HXG HXP _ XM0 ⟨_, _, _, _, b7⟩ s9 a9 n9 c9 ⟨_, _, _, _, rfl, h9⟩; rw [← hW8]; exact hK.out undef _ r8 h8 }) ?_
        refine RgAllx.cons (by { (with_reducible refine RgLx.mk (by rfl) ?_); intro v a w' hR hd hf; have ev0 := hf.lit 5 (.pointer (some ⟨w.heap.size + 1 + 1 + 1, 0, none⟩)) (by kernel_rfl) (by kernel_rfl); have d1 : (IsI k2 u') (v 1) w' := hd 1 (by kernel_rfl); obtain ⟨s9, a9, n9, c9, z0, h9⟩ := d1; have ev1 := hf.val 1 62 _ z0 (by kernel_rfl) (by kernel_rfl) (by kernel_rfl); clear z0; obtain ⟨s7, a7, n7, c7, b7⟩ := hR.box _ XM1 XB1; have F1 := b7.c0; have F2 := b7.c1; have F3 := b7.f0; have F4 := b7.f1; clear hd hf; intro K hK; go_simp; obtain ⟨W8, hW8, r8, h8⟩ := Rx.put HXG HXP _ XM1 ⟨_, _, _, _, b7⟩ s9 a9 n9 c9 ⟨_, _, _, _, rfl, h9⟩; rw [← hW8]; exact hK.out undef _ r8 h8 }) ?_
        refine RgAllx.cons (by { (with_reducible refine RgLx.mk (by rfl) ?_); intro v a w' hR hd hf; have ev0 := hf.lit 6 (.pointer (some ⟨w.heap.size + 1 + 1 + 1 + 1, 0, none⟩)) (by kernel_rfl) (by kernel_rfl); have d1 : (IsI (k2 + k1 + 1) ((X - u' * z1) / z2)) (v 8) w' := hd 8 (by kernel_rfl); obtain ⟨s9, a9, n9, c9, z0, h9⟩ := d1; have ev1 := hf.val 8 69 _ z0 (by kernel_rfl) (by kernel_rfl) (by kernel_rfl); clear z0; obtain ⟨s7, a7, n7, c7, b7⟩ := hR.box _ XM2 XB2; have F1 := b7.c0; have F2 := b7.c1; have F3 := b7.f0; have F4 := b7.f1; clear hd hf; intro K hK; go_simp; obtain ⟨W8, hW8, r8, h8⟩ := Rx.put HXG HXP _ XM2 ⟨_, _, _, _, b7⟩ s9 a9 n9 c9 ⟨_, _, _, _, rfl, h9⟩; rw [← hW8]; exact hK.out undef _ r8 h8 }) ?_
        exact RgAllx.nil
      intro v W17 r1 hΦ
      replace S := S.rx r1 (HXA _ ⟨XL0, IsI.gstb _ _, hΦ 9 (by decide)⟩ ⟨XL1, IsI.gstb _ _, hΦ 10 (by decide)⟩ ⟨XL2, IsI.gstb _ _, hΦ 11 (by decide)⟩) [(g16, IsI k2 X), (g11, IsI k2 u'), (g10, IsI k2 T), (g9, IsI k2 X), (g8, IsI k2 0), (g7, IsI k2 z2.natAbs), (w.heap.size + 1 + 1 + 1 + 1, IsI (k2 + k1 + 1) ((X - u' * z1) / z2)), (w.heap.size + 1 + 1 + 1, IsI k2 u'), (w.heap.size + 1 + 1, IsI k2 X), (w.heap.size + 1, IsI k2 z2), (w.heap.size, IsI k1 z1)] rfl (by
        intro q hq; simp only [List.mem_cons, List.not_mem_nil, or_false] at hq; rcases hq with rfl | rfl | rfl | rfl | rfl | rfl | rfl | rfl | rfl | rfl | rfl
        · exact Or.inr ⟨List.mem_of_getElem? (i := 0) rfl, HXN _ (S.ne 8 0 (w.heap.size + 1 + 1, IsI 0 0) (g16, IsI k2 X) rfl rfl (by decide)) (S.ne 7 0 (w.heap.size + 1 + 1 + 1, IsI 0 0) (g16, IsI k2 X) rfl rfl (by decide)) (S.ne 6 0 (w.heap.size + 1 + 1 + 1 + 1, IsI 0 0) (g16, IsI k2 X) rfl rfl (by decide))⟩
        · exact Or.inr ⟨List.mem_of_getElem? (i := 1) rfl, HXN _ (S.ne 8 1 (w.heap.size + 1 + 1, IsI 0 0) (g11, IsI k2 u') rfl rfl (by decide)) (S.ne 7 1 (w.heap.size + 1 + 1 + 1, IsI 0 0) (g11, IsI k2 u') rfl rfl (by decide)) (S.ne 6 1 (w.heap.size + 1 + 1 + 1 + 1, IsI 0 0) (g11, IsI k2 u') rfl rfl (by decide))⟩
        · exact Or.inr ⟨List.mem_of_getElem? (i := 2) rfl, HXN _ (S.ne 8 2 (w.heap.size + 1 + 1, IsI 0 0) (g10, IsI k2 T) rfl rfl (by decide)) (S.ne 7 2 (w.heap.size + 1 + 1 + 1, IsI 0 0) (g10, IsI k2 T) rfl rfl (by decide)) (S.ne 6 2 (w.heap.size + 1 + 1 + 1 + 1, IsI 0 0) (g10, IsI k2 T) rfl rfl (by decide))⟩
        · exact Or.inr ⟨List.mem_of_getElem? (i := 3) rfl, HXN _ (S.ne 8 3 (w.heap.size + 1 + 1, IsI 0 0) (g9, IsI k2 X) rfl rfl (by decide)) (S.ne 7 3 (w.heap.size + 1 + 1 + 1, IsI 0 0) (g9, IsI k2 X) rfl rfl (by decide)) (S.ne 6 3 (w.heap.size + 1 + 1 + 1 + 1, IsI 0 0) (g9, IsI k2 X) rfl rfl (by decide))⟩
        · exact Or.inr ⟨List.mem_of_getElem? (i := 4) rfl, HXN _ (S.ne 8 4 (w.heap.size + 1 + 1, IsI 0 0) (g8, IsI k2 0) rfl rfl (by decide)) (S.ne 7 4 (w.heap.size + 1 + 1 + 1, IsI 0 0) (g8, IsI k2 0) rfl rfl (by decide)) (S.ne 6 4 (w.heap.size + 1 + 1 + 1 + 1, IsI 0 0) (g8, IsI k2 0) rfl rfl (by decide))⟩
        · exact Or.inr ⟨List.mem_of_getElem? (i := 5) rfl, HXN _ (S.ne 8 5 (w.heap.size + 1 + 1, IsI 0 0) (g7, IsI k2 z2.natAbs) rfl rfl (by decide)) (S.ne 7 5 (w.heap.size + 1 + 1 + 1, IsI 0 0) (g7, IsI k2 z2.natAbs) rfl rfl (by decide)) (S.ne 6 5 (w.heap.size + 1 + 1 + 1 + 1, IsI 0 0) (g7, IsI k2 z2.natAbs) rfl rfl (by decide))⟩
        · exact Or.inl XM2
        · exact Or.inl XM1
        · exact Or.inl XM0
        · exact Or.inr ⟨List.mem_of_getElem? (i := 9) rfl, HXN _ (S.ne 8 9 (w.heap.size + 1 + 1, IsI 0 0) (w.heap.size + 1, IsI k2 z2) rfl rfl (by decide)) (S.ne 7 9 (w.heap.size + 1 + 1 + 1, IsI 0 0) (w.heap.size + 1, IsI k2 z2) rfl rfl (by decide)) (S.ne 6 9 (w.heap.size + 1 + 1 + 1 + 1, IsI 0 0) (w.heap.size + 1, IsI k2 z2) rfl rfl (by decide))⟩
        · exact Or.inr ⟨List.mem_of_getElem? (i := 10) rfl, HXN _ (S.ne 8 10 (w.heap.size + 1 + 1, IsI 0 0) (w.heap.size, IsI k1 z1) rfl rfl (by decide)) (S.ne 7 10 (w.heap.size + 1 + 1 + 1, IsI 0 0) (w.heap.size, IsI k1 z1) rfl rfl (by decide)) (S.ne 6 10 (w.heap.size + 1 + 1 + 1 + 1, IsI 0 0) (w.heap.size, IsI k1 z1) rfl rfl (by decide))⟩)
      simp only [layL, Act.put, List.setIfInBounds_toArray, List.set_cons_zero, List.set_cons_succ, Nat.reduceAdd]
      clear hΦ r1 HXG HXP HXN HXA
      refine wpAny_done (by kernel_rfl) ?_ _
      go_wp2_with fail
      obtain ⟨rs0, ra0, rn0, rc0, rb0, rh0⟩ := S.at 8 (w.heap.size + 1 + 1) (IsI k2 X) rfl; have T0 := rb0.c0; have U0 := rb0.c1
      obtain ⟨rs1, ra1, rn1, rc1, rb1, rh1⟩ := S.at 7 (w.heap.size + 1 + 1 + 1) (IsI k2 u') rfl; have T1 := rb1.c0; have U1 := rb1.c1
      obtain ⟨rs2, ra2, rn2, rc2, rb2, rh2⟩ := S.at 6 (w.heap.size + 1 + 1 + 1 + 1) (IsI (k2 + k1 + 1) ((X - u' * z1) / z2)) rfl; have T2 := rb2.c0; have U2 := rb2.c1
      exact bodyPost_ret (v := .tuple #[.agg #[.bool rs0, .slice ra0 rn0 rc0], .agg #[.bool rs1, .slice ra1 rn1 rc1], .agg #[.bool rs2, .slice ra2 rn2 rc2]]) (by simp [results, Tryz.results10, go_sem, T0, U0, T1, U1, T2, U2]) rfl (⟨u', _, ⟨_, rfl, S.ext, _, _, _, rfl, (by rw [← H.out.1]; exact rh0), rh1, rh2⟩, by rw [← H.out.1]; have h9 := hv.out; rw [Int.mul_comm] at h9; omega, hu0.out.1, by rw [← H.out.1]; exact_mod_cast hu0.out.2⟩)
    · skip
      have M1 := hid (M.out.step hY)
      have HY := hid hY
      have HW := hid (show (U - X / Y * T).natAbs < 4294967296 ^ k2 by have h := M1.out.bt; have h2 := sz2.out; omega)
      have HMS := hid (show (X % Y).natAbs < gk by have := emod_natAbs_lt X Y hY; omega)
      clear hY hgk M
      go_upto_region 8 with (fail)
      refine wp_region_rgs 4 [some 35, some 36, some 37, some 38] [IsV (.pointer (some ⟨g8, 1, none⟩)), IsMag k2 Y, IsPos, IsV (.bool true)] [] (by decide) (by kernel_rfl) (by kernel_rfl) (by kernel_rfl) ?_ ?_ ?_ ?_
      · repeat' (first | exact trivial | exact IsV.stb _ | exact IsI.stb _ _ | exact IsB.stb _ | exact IsR.stb _ _ | exact IsMag.stb _ _ | exact IsPos.stb | apply IsT3.stb | apply IsT2.stb | apply And.intro)
      · exact (fun _ h => by cases h)
      · refine RgAll.cons (by { (with_reducible refine RgL.mk (by rfl) ?_); intro v a w' hE hd hf; have ev0 := hf.lit 8 (.pointer (some ⟨g8, 0, none⟩)) (by kernel_rfl) (by kernel_rfl); clear hd hf; intro K hK; go_simp; exact hK.out _ _ (Ext.refl _) rfl (FreshIf.no rfl) }) ?_
        refine RgAll.cons (by { (with_reducible refine RgL.mk (by rfl) ?_); intro v a w' hE hd hf; have d0 : v 0 = .pointer (some ⟨g8, 1, none⟩) := hd 0 (by kernel_rfl); have ev0 := hf.val 0 35 _ d0 (by kernel_rfl) (by kernel_rfl) (by kernel_rfl); clear d0; obtain ⟨s8, a8, n8, c8, b8, h8⟩ := (S.mono hE).at 3 (g8) (IsI k2 Y) rfl; have L0 := b8.c0; have L1 := b8.c1; obtain ⟨s9, a9, n9, c9, k9, h9⟩ := h8; injection k9 with k9; simp only [Array.mk.injEq, List.cons.injEq, Value.bool.injEq, Value.slice.injEq, and_true] at k9; obtain ⟨rfl, rfl, rfl, rfl⟩ := k9; clear hd hf; intro K hK; go_simp; exact hK.out _ _ (Ext.refl _) ⟨_, _, _, _, rfl, h9⟩ (FreshIf.no rfl) }) ?_
        refine RgAll.cons (by { (with_reducible refine RgL.mk (by rfl) ?_); intro v a w' hE hd hf; have d0 : (IsMag k2 Y) (v 1) w' := hd 1 (by kernel_rfl); obtain ⟨s9, a9, n9, c9, z0, h9⟩ := d0; have ev0 := hf.val 1 36 _ z0 (by kernel_rfl) (by kernel_rfl) (by kernel_rfl); clear z0; clear hd hf; intro K hK; go_simp; exact hK.out _ _ (Ext.refl _) ⟨n9, rfl, Nat.pos_of_ne_zero (fun h0 => (HY.out) (h9.zero_iff.2 h0)), h9.len⟩ (FreshIf.no rfl) }) ?_
        refine RgAll.cons (by { (with_reducible refine RgL.mk (by rfl) ?_); intro v a w' hE hd hf; have d0 : IsPos (v 2) w' := hd 2 (by kernel_rfl); obtain ⟨n9, z0, p9, q9⟩ := d0; have ev0 := hf.val 2 37 _ z0 (by kernel_rfl) (by kernel_rfl) (by kernel_rfl); clear z0; have hb9 : ((n9 : Int) == 0) = false := (by rw [beq_eq_false_iff_ne]; omega); have hb8 : decide ((0 : Int) < (n9 : Int)) = true := (by simp; omega); have hb7 : decide (0 < n9) = true := (by simp; omega); have hb6 : (n9 == 0) = false := (by rw [beq_eq_false_iff_ne]; omega); clear hd hf; intro K hK; go_simp; exact hK.out _ _ (Ext.refl _) rfl (FreshIf.no rfl) }) ?_
        exact RgAll.nil
      intro v W18 e1 hΦ _
      replace S := S.mono e1
      have v3 : v 3 = .bool true := hΦ 3 (by decide)
      simp only [layL, Act.put, List.setIfInBounds_toArray, List.set_cons_zero, List.set_cons_succ, Nat.reduceAdd]
      rw [v3]
      clear v3
      clear hΦ
      clear e1
      refine wpList_nil ?_
      go_upto_region 9 with (fail)
      have hl := hid S.lt; have hw := S.ext.size
      refine wp_region_rgs 9 [some 40, some 41, some 42, some 39, some 43, some 44, some 45, some 12, some 13] [IsI k2 X, IsI k2 Y, IsT3 (IsI k2 (X / Y)) (IsI k2 (X % Y)) (IsV (.int .i64 0)), IsT3 (IsI k2 (X / Y)) (IsI k2 (X % Y)) (IsV (.int .i64 0)), IsI k2 (X / Y), IsI k2 (X % Y), IsV (.int .i64 0), IsB W18, IsB W18] [7, 8] (by decide) (by kernel_rfl) (by kernel_rfl) (by kernel_rfl) ?_ ?_ ?_ ?_
      · repeat' (first | exact trivial | exact IsV.stb _ | exact IsI.stb _ _ | exact IsB.stb _ | exact IsR.stb _ _ | exact IsMag.stb _ _ | exact IsPos.stb | apply IsT3.stb | apply IsT2.stb | apply And.intro)
      · intro i hi; simp only [List.mem_cons, List.not_mem_nil, or_false] at hi; rcases hi with rfl | rfl <;> exact IsB.box _
      · refine RgAll.cons (by { (with_reducible refine RgL.mk (by rfl) ?_); intro v a w' hE hd hf; have ev0 := hf.lit 9 (.pointer (some ⟨g9, 0, none⟩)) (by kernel_rfl) (by kernel_rfl); obtain ⟨s8, a8, n8, c8, b8, h8⟩ := (S.mono hE).at 2 (g9) (IsI k2 X) rfl; have L0 := b8.c0; have L1 := b8.c1; clear hd hf; intro K hK; go_simp; exact hK.out _ _ (Ext.refl _) h8 (FreshIf.no rfl) }) ?_
        refine RgAll.cons (by { (with_reducible refine RgL.mk (by rfl) ?_); intro v a w' hE hd hf; have ev0 := hf.lit 8 (.pointer (some ⟨g8, 0, none⟩)) (by kernel_rfl) (by kernel_rfl); obtain ⟨s8, a8, n8, c8, b8, h8⟩ := (S.mono hE).at 3 (g8) (IsI k2 Y) rfl; have L0 := b8.c0; have L1 := b8.c1; clear hd hf; intro K hK; go_simp; exact hK.out _ _ (Ext.refl _) h8 (FreshIf.no rfl) }) ?_
        refine RgAll.cons (by { (with_reducible refine RgL.mk (by rfl) ?_); intro v a w' hE hd hf; have d0 : (IsI k2 X) (v 0) w' := hd 0 (by kernel_rfl); have ev0 := hf.val 0 40 _ rfl (by kernel_rfl) (by kernel_rfl) (by kernel_rfl); have d1 : (IsI k2 Y) (v 1) w' := hd 1 (by kernel_rfl); have ev1 := hf.val 1 41 _ rfl (by kernel_rfl) (by kernel_rfl) (by kernel_rfl); clear hd hf; intro K hK; go_simp; go_at_call 8; go_split_ands; (with_reducible refine Calls.mono (RDivMod_f d0 d1 (by omega) (by omega) HY.out) ?_); rintro e w2 ⟨x, rfl, e2, hx⟩; exact hK.out _ _ e2 hx (FreshIf.no rfl) }) ?_
        refine RgAll.cons (by { (with_reducible refine RgL.mk (by rfl) ?_); intro v a w' hE hd hf; have d0 : (IsT3 (IsI k2 (X / Y)) (IsI k2 (X % Y)) (IsV (.int .i64 0))) (v 2) w' := hd 2 (by kernel_rfl); have ev0 := hf.val 2 42 _ rfl (by kernel_rfl) (by kernel_rfl) (by kernel_rfl); clear hd hf; intro K hK; go_simp; exact hK.out _ _ (Ext.refl _) d0 (FreshIf.no rfl) }) ?_
        refine RgAll.cons (by { (with_reducible refine RgL.mk (by rfl) ?_); intro v a w' hE hd hf; have d0 : (IsT3 (IsI k2 (X / Y)) (IsI k2 (X % Y)) (IsV (.int .i64 0))) (v 3) w' := hd 3 (by kernel_rfl); obtain ⟨x0, x1, x2, z0, y0, y1, y2⟩ := d0; have ev0 := hf.val 3 39 _ z0 (by kernel_rfl) (by kernel_rfl) (by kernel_rfl); clear z0; clear hd hf; intro K hK; go_simp; exact hK.out _ _ (Ext.refl _) y0 (FreshIf.no rfl) }) ?_
        refine RgAll.cons (by { (with_reducible refine RgL.mk (by rfl) ?_); intro v a w' hE hd hf; have d0 : (IsT3 (IsI k2 (X / Y)) (IsI k2 (X % Y)) (IsV (.int .i64 0))) (v 3) w' := hd 3 (by kernel_rfl); obtain ⟨x0, x1, x2, z0, y0, y1, y2⟩ := d0; have ev0 := hf.val 3 39 _ z0 (by kernel_rfl) (by kernel_rfl) (by kernel_rfl); clear z0; clear hd hf; intro K hK; go_simp; exact hK.out _ _ (Ext.refl _) y1 (FreshIf.no rfl) }) ?_
        refine RgAll.cons (by { (with_reducible refine RgL.mk (by rfl) ?_); intro v a w' hE hd hf; have d0 : (IsT3 (IsI k2 (X / Y)) (IsI k2 (X % Y)) (IsV (.int .i64 0))) (v 3) w' := hd 3 (by kernel_rfl); obtain ⟨x0, x1, x2, z0, y0, y1, y2⟩ := d0; have ev0 := hf.val 3 39 _ z0 (by kernel_rfl) (by kernel_rfl) (by kernel_rfl); clear z0; clear hd hf; intro K hK; go_simp; exact hK.out _ _ (Ext.refl _) y2 (FreshIf.no rfl) }) ?_
        refine RgAll.cons (by { (with_reducible refine RgL.mk (by rfl) ?_); intro v a w' hE hd hf; skip; clear hd hf; intro K hK; go_simp; refine hK.out _ _ ((Ext.refl _).alloc _) ⟨_, rfl, hE.size, Bx.new _ _ _ _ _⟩ FreshIf.yes }) ?_
        refine RgAll.cons (by { (with_reducible refine RgL.mk (by rfl) ?_); intro v a w' hE hd hf; skip; clear hd hf; intro K hK; go_simp; refine hK.out _ _ ((Ext.refl _).alloc _) ⟨_, rfl, hE.size, Bx.new _ _ _ _ _⟩ FreshIf.yes }) ?_
        exact RgAll.nil
      intro v W19 e1 hΦ hne
      replace S := S.mono e1
      obtain ⟨s43, a43, n43, c43, v4, h43⟩ := (hΦ 4 (by decide) : IsI k2 (X / Y) (v 4) W19)
      obtain ⟨s44, a44, n44, c44, v5, h44⟩ := (hΦ 5 (by decide) : IsI k2 (X % Y) (v 5) W19)
      have v6 : v 6 = .int .i64 0 := hΦ 6 (by decide)
      obtain ⟨g12, v7, q14, b13⟩ := (hΦ 7 (by decide) : IsB W18 (v 7) W19)
      replace S := S.addN (Apart.old hl.out q14) (Nat.le_trans hw q14) b13
      clear b13
      obtain ⟨g13, v8, q16, b15⟩ := (hΦ 8 (by decide) : IsB W18 (v 8) W19)
      replace S := S.addN (Apart.cons (fun h => hne 7 8 (by decide) (by decide) (by decide) (by decide) (by decide) (by rw [v7, v8, h])) (Apart.old hl.out q16)) (Nat.le_trans hw q16) b15
      clear b15
      clear hne
      simp only [layL, Act.put, List.setIfInBounds_toArray, List.set_cons_zero, List.set_cons_succ, Nat.reduceAdd]
      rw [v4, v5, v6, v7, v8]
      clear v4 v5 v6 v7 v8
      clear hΦ
      clear hl hw
      clear e1
      obtain ⟨s8, a8, n8, c8, b8, _⟩ := S.at 1 (g12) (IsI 0 0) rfl; have F1 := b8.c0; have F2 := b8.c1; have F3 := b8.f0; have F4 := b8.f1
      refine wpList_step fun K hK => ?_; go_simp; refine hK _ _ ?_; clear hK K
      clear F1 F2 F3 F4 b8
      obtain ⟨W20, hW, S2, G2, _⟩ := S.put 1 (g12) (IsI 0 0) (IsI k2 (X / Y)) rfl s43 a43 n43 c43 (IsI.gstb _ _) ⟨_, _, _, _, rfl, h43⟩
      rw [← hW]; clear hW S
      replace h44 := h44.gr G2
      have S : St w W20 [(g13, IsI 0 0), (g12, IsI k2 (X / Y)), (g11, IsI k2 U), (g10, IsI k2 T), (g9, IsI k2 X), (g8, IsI k2 Y), (g7, IsI k2 z2.natAbs), (w.heap.size + 1 + 1 + 1 + 1, IsI 0 0), (w.heap.size + 1 + 1 + 1, IsI 0 0), (w.heap.size + 1 + 1, IsI 0 0), (w.heap.size + 1, IsI k2 z2), (w.heap.size, IsI k1 z1)] := S2; clear S2 G2
      clear h43
      obtain ⟨s8, a8, n8, c8, b8, _⟩ := S.at 0 (g13) (IsI 0 0) rfl; have F1 := b8.c0; have F2 := b8.c1; have F3 := b8.f0; have F4 := b8.f1
      refine wpList_step fun K hK => ?_; go_simp; refine hK _ _ ?_; clear hK K
      clear F1 F2 F3 F4 b8
      obtain ⟨W21, hW, S2, G2, _⟩ := S.put 0 (g13) (IsI 0 0) (IsI k2 (X % Y)) rfl s44 a44 n44 c44 (IsI.gstb _ _) ⟨_, _, _, _, rfl, h44⟩
      rw [← hW]; clear hW S
      have S : St w W21 [(g13, IsI k2 (X % Y)), (g12, IsI k2 (X / Y)), (g11, IsI k2 U), (g10, IsI k2 T), (g9, IsI k2 X), (g8, IsI k2 Y), (g7, IsI k2 z2.natAbs), (w.heap.size + 1 + 1 + 1 + 1, IsI 0 0), (w.heap.size + 1 + 1 + 1, IsI 0 0), (w.heap.size + 1 + 1, IsI 0 0), (w.heap.size + 1, IsI k2 z2), (w.heap.size, IsI k1 z1)] := S2; clear S2 G2
      clear h44
      refine wpList_step fun K hK => ?_; go_simp; refine hK _ _ ?_; clear hK K
      refine wpList_nil ?_
      go_upto_region 10 with (fail)
      have hl := hid S.lt; have hw := S.ext.size
      refine wp_region_rg 6 [some 46, some 47, some 48, some 49, some 50, some 15] [IsI k2 U, IsI k2 (X / Y), IsI k2 T, IsI (k2 + k2) (X / Y * T), IsI k2 (U - X / Y * T), IsB W21] [5] 1 (by kernel_rfl) (by decide) (by kernel_rfl) (by kernel_rfl) (by kernel_rfl) (by kernel_rfl) (by kernel_rfl) ?_ ?_ ?_ ?_
      · repeat' (first | exact trivial | exact IsV.stb _ | exact IsI.stb _ _ | exact IsB.stb _ | exact IsR.stb _ _ | exact IsMag.stb _ _ | exact IsPos.stb | apply IsT3.stb | apply IsT2.stb | apply And.intro)
      · intro i hi; simp only [List.mem_cons, List.not_mem_nil, or_false] at hi; subst hi; exact IsB.box _
      · refine RgAll.cons (by { (with_reducible refine RgL.mk (by rfl) ?_); intro v a w' hE hd hf; have ev0 := hf.lit 11 (.pointer (some ⟨g11, 0, none⟩)) (by kernel_rfl) (by kernel_rfl); obtain ⟨s8, a8, n8, c8, b8, h8⟩ := (S.mono hE).at 2 (g11) (IsI k2 U) rfl; have L0 := b8.c0; have L1 := b8.c1; clear hd hf; intro K hK; go_simp; exact hK.out _ _ (Ext.refl _) h8 (FreshIf.no rfl) }) ?_
        refine RgAll.cons (by { (with_reducible refine RgL.mk (by rfl) ?_); intro v a w' hE hd hf; have ev0 := hf.lit 12 (.pointer (some ⟨g12, 0, none⟩)) (by kernel_rfl) (by kernel_rfl); obtain ⟨s8, a8, n8, c8, b8, h8⟩ := (S.mono hE).at 1 (g12) (IsI k2 (X / Y)) rfl; have L0 := b8.c0; have L1 := b8.c1; clear hd hf; intro K hK; go_simp; exact hK.out _ _ (Ext.refl _) h8 (FreshIf.no rfl) }) ?_
        refine RgAll.cons (by { (with_reducible refine RgL.mk (by rfl) ?_); intro v a w' hE hd hf; have ev0 := hf.lit 10 (.pointer (some ⟨g10, 0, none⟩)) (by kernel_rfl) (by kernel_rfl); obtain ⟨s8, a8, n8, c8, b8, h8⟩ := (S.mono hE).at 3 (g10) (IsI k2 T) rfl; have L0 := b8.c0; have L1 := b8.c1; clear hd hf; intro K hK; go_simp; exact hK.out _ _ (Ext.refl _) h8 (FreshIf.no rfl) }) ?_
        refine RgAll.cons (by { (with_reducible refine RgL.mk (by rfl) ?_); intro v a w' hE hd hf; have d0 : (IsI k2 (X / Y)) (v 1) w' := hd 1 (by kernel_rfl); have ev0 := hf.val 1 47 _ rfl (by kernel_rfl) (by kernel_rfl) (by kernel_rfl); have d1 : (IsI k2 T) (v 2) w' := hd 2 (by kernel_rfl); have ev1 := hf.val 2 48 _ rfl (by kernel_rfl) (by kernel_rfl) (by kernel_rfl); clear hd hf; intro K hK; go_simp; go_at_call 18; go_split_ands; (with_reducible refine Calls.mono (RMul_f d0 d1 (by omega) (by omega)) ?_); rintro e w2 ⟨x, rfl, e2, hx⟩; exact hK.out _ _ e2 hx (FreshIf.no rfl) }) ?_
        refine RgAll.cons (by { (with_reducible refine RgL.mk (by rfl) ?_); intro v a w' hE hd hf; have d0 : (IsI k2 U) (v 0) w' := hd 0 (by kernel_rfl); have ev0 := hf.val 0 46 _ rfl (by kernel_rfl) (by kernel_rfl) (by kernel_rfl); have d1 : (IsI (k2 + k2) (X / Y * T)) (v 3) w' := hd 3 (by kernel_rfl); have ev1 := hf.val 3 49 _ rfl (by kernel_rfl) (by kernel_rfl) (by kernel_rfl); clear hd hf; intro K hK; go_simp; go_at_call 16; go_split_ands; (with_reducible refine Calls.mono (Calls.mono (RSub_f d0 d1 (by omega) (by omega)) fun _ _ h => h.mono fun _ _ h => h.tight (k' := k2) HW.out) ?_); rintro e w2 ⟨x, rfl, e2, hx⟩; exact hK.out _ _ e2 hx (FreshIf.no rfl) }) ?_
        refine RgAll.cons (by { (with_reducible refine RgL.mk (by rfl) ?_); intro v a w' hE hd hf; skip; clear hd hf; intro K hK; go_simp; refine hK.out _ _ ((Ext.refl _).alloc _) ⟨_, rfl, hE.size, Bx.new _ _ _ _ _⟩ FreshIf.yes }) ?_
        exact RgAll.nil
      intro v W22 e1 hΦ _
      replace S := S.mono e1
      obtain ⟨s50, a50, n50, c50, v4, h50⟩ := (hΦ 4 (by decide) : IsI k2 (U - X / Y * T) (v 4) W22)
      obtain ⟨g15, v5, q18, b17⟩ := (hΦ 5 (by decide) : IsB W21 (v 5) W22)
      replace S := S.addN (Apart.old hl.out q18) (Nat.le_trans hw q18) b17
      clear b17
      simp only [layL, Act.put, List.setIfInBounds_toArray, List.set_cons_zero, List.set_cons_succ, Nat.reduceAdd]
      rw [v4, v5]
      clear v4 v5
      clear hΦ
      clear hl hw
      clear e1
      obtain ⟨s8, a8, n8, c8, b8, _⟩ := S.at 0 (g15) (IsI 0 0) rfl; have F1 := b8.c0; have F2 := b8.c1; have F3 := b8.f0; have F4 := b8.f1
      refine wpAny_ready (rs := [6]) (by kernel_rfl) (by simp) (AllReady.cons rfl (fun K hK => ?_) AllReady.nil); go_simp; refine hK _ _ ?_; clear hK K
      clear F1 F2 F3 F4 b8
      obtain ⟨W23, hW, S2, G2, _⟩ := S.put 0 (g15) (IsI 0 0) (IsI k2 (U - X / Y * T)) rfl s50 a50 n50 c50 (IsI.gstb _ _) ⟨_, _, _, _, rfl, h50⟩
      rw [← hW]; clear hW S
      have S : St w W23 [(g15, IsI k2 (U - X / Y * T)), (g13, IsI k2 (X % Y)), (g12, IsI k2 (X / Y)), (g11, IsI k2 U), (g10, IsI k2 T), (g9, IsI k2 X), (g8, IsI k2 Y), (g7, IsI k2 z2.natAbs), (w.heap.size + 1 + 1 + 1 + 1, IsI 0 0), (w.heap.size + 1 + 1 + 1, IsI 0 0), (w.heap.size + 1 + 1, IsI 0 0), (w.heap.size + 1, IsI k2 z2), (w.heap.size, IsI k1 z1)] := S2; clear S2 G2
      clear h50
      refine wpAny_done (by kernel_rfl) ?_ _
      go_upto_region 11 with (fail)
      refine wp_region_rgs 1 [some 51] [IsI k2 Y] [] (by decide) (by kernel_rfl) (by kernel_rfl) (by kernel_rfl) ?_ ?_ ?_ ?_
      · repeat' (first | exact trivial | exact IsV.stb _ | exact IsI.stb _ _ | exact IsB.stb _ | exact IsR.stb _ _ | exact IsMag.stb _ _ | exact IsPos.stb | apply IsT3.stb | apply IsT2.stb | apply And.intro)
      · exact (fun _ h => by cases h)
      · refine RgAll.cons (by { (with_reducible refine RgL.mk (by rfl) ?_); intro v a w' hE hd hf; have ev0 := hf.lit 8 (.pointer (some ⟨g8, 0, none⟩)) (by kernel_rfl) (by kernel_rfl); obtain ⟨s8, a8, n8, c8, b8, h8⟩ := (S.mono hE).at 6 (g8) (IsI k2 Y) rfl; have L0 := b8.c0; have L1 := b8.c1; clear hd hf; intro K hK; go_simp; exact hK.out _ _ (Ext.refl _) h8 (FreshIf.no rfl) }) ?_
        exact RgAll.nil
      intro v W24 e1 hΦ _
      replace S := S.mono e1
      obtain ⟨s51, a51, n51, c51, v0, h51⟩ := (hΦ 0 (by decide) : IsI k2 Y (v 0) W24)
      simp only [layL, Act.put, List.setIfInBounds_toArray, List.set_cons_zero, List.set_cons_succ]
      rw [v0]
      clear v0
      clear hΦ
      clear e1
      obtain ⟨s8, a8, n8, c8, b8, _⟩ := S.at 5 (g9) (IsI k2 X) rfl; have F1 := b8.c0; have F2 := b8.c1; have F3 := b8.f0; have F4 := b8.f1
      refine wpList_step fun K hK => ?_; go_simp; refine hK _ _ ?_; clear hK K
      clear F1 F2 F3 F4 b8
      obtain ⟨W25, hW, S2, G2, _⟩ := S.put 5 (g9) (IsI k2 X) (IsI k2 Y) rfl s51 a51 n51 c51 (IsI.gstb _ _) ⟨_, _, _, _, rfl, h51⟩
      rw [← hW]; clear hW S
      have S : St w W25 [(g15, IsI k2 (U - X / Y * T)), (g13, IsI k2 (X % Y)), (g12, IsI k2 (X / Y)), (g11, IsI k2 U), (g10, IsI k2 T), (g9, IsI k2 Y), (g8, IsI k2 Y), (g7, IsI k2 z2.natAbs), (w.heap.size + 1 + 1 + 1 + 1, IsI 0 0), (w.heap.size + 1 + 1 + 1, IsI 0 0), (w.heap.size + 1 + 1, IsI 0 0), (w.heap.size + 1, IsI k2 z2), (w.heap.size, IsI k1 z1)] := S2; clear S2 G2
      clear h51
      refine wpList_nil ?_
      go_upto_region 12 with (fail)
      refine wp_region_rgs 1 [some 52] [IsI k2 T] [] (by decide) (by kernel_rfl) (by kernel_rfl) (by kernel_rfl) ?_ ?_ ?_ ?_
      · repeat' (first | exact trivial | exact IsV.stb _ | exact IsI.stb _ _ | exact IsB.stb _ | exact IsR.stb _ _ | exact IsMag.stb _ _ | exact IsPos.stb | apply IsT3.stb | apply IsT2.stb | apply And.intro)
      · exact (fun _ h => by cases h)
      · refine RgAll.cons (by { (with_reducible refine RgL.mk (by rfl) ?_); intro v a w' hE hd hf; have ev0 := hf.lit 10 (.pointer (some ⟨g10, 0, none⟩)) (by kernel_rfl) (by kernel_rfl); obtain ⟨s8, a8, n8, c8, b8, h8⟩ := (S.mono hE).at 4 (g10) (IsI k2 T) rfl; have L0 := b8.c0; have L1 := b8.c1; clear hd hf; intro K hK; go_simp; exact hK.out _ _ (Ext.refl _) h8 (FreshIf.no rfl) }) ?_
        exact RgAll.nil
      intro v W26 e1 hΦ _
      replace S := S.mono e1
      obtain ⟨s52, a52, n52, c52, v0, h52⟩ := (hΦ 0 (by decide) : IsI k2 T (v 0) W26)
      simp only [layL, Act.put, List.setIfInBounds_toArray, List.set_cons_zero, List.set_cons_succ]
      rw [v0]
      clear v0
      clear hΦ
      clear e1
      obtain ⟨s8, a8, n8, c8, b8, _⟩ := S.at 3 (g11) (IsI k2 U) rfl; have F1 := b8.c0; have F2 := b8.c1; have F3 := b8.f0; have F4 := b8.f1
      refine wpList_step fun K hK => ?_; go_simp; refine hK _ _ ?_; clear hK K
      clear F1 F2 F3 F4 b8
      obtain ⟨W27, hW, S2, G2, _⟩ := S.put 3 (g11) (IsI k2 U) (IsI k2 T) rfl s52 a52 n52 c52 (IsI.gstb _ _) ⟨_, _, _, _, rfl, h52⟩
      rw [← hW]; clear hW S
      have S : St w W27 [(g15, IsI k2 (U - X / Y * T)), (g13, IsI k2 (X % Y)), (g12, IsI k2 (X / Y)), (g11, IsI k2 T), (g10, IsI k2 T), (g9, IsI k2 Y), (g8, IsI k2 Y), (g7, IsI k2 z2.natAbs), (w.heap.size + 1 + 1 + 1 + 1, IsI 0 0), (w.heap.size + 1 + 1 + 1, IsI 0 0), (w.heap.size + 1 + 1, IsI 0 0), (w.heap.size + 1, IsI k2 z2), (w.heap.size, IsI k1 z1)] := S2; clear S2 G2
      clear h52
      refine wpList_nil ?_
      go_upto_region 13 with (fail)
      refine wp_region_rgs 1 [some 53] [IsI k2 (X % Y)] [] (by decide) (by kernel_rfl) (by kernel_rfl) (by kernel_rfl) ?_ ?_ ?_ ?_
      · repeat' (first | exact trivial | exact IsV.stb _ | exact IsI.stb _ _ | exact IsB.stb _ | exact IsR.stb _ _ | exact IsMag.stb _ _ | exact IsPos.stb | apply IsT3.stb | apply IsT2.stb | apply And.intro)
      · exact (fun _ h => by cases h)
      · refine RgAll.cons (by { (with_reducible refine RgL.mk (by rfl) ?_); intro v a w' hE hd hf; have ev0 := hf.lit 13 (.pointer (some ⟨g13, 0, none⟩)) (by kernel_rfl) (by kernel_rfl); obtain ⟨s8, a8, n8, c8, b8, h8⟩ := (S.mono hE).at 1 (g13) (IsI k2 (X % Y)) rfl; have L0 := b8.c0; have L1 := b8.c1; clear hd hf; intro K hK; go_simp; exact hK.out _ _ (Ext.refl _) h8 (FreshIf.no rfl) }) ?_
        exact RgAll.nil
      intro v W28 e1 hΦ _
      replace S := S.mono e1
      obtain ⟨s53, a53, n53, c53, v0, h53⟩ := (hΦ 0 (by decide) : IsI k2 (X % Y) (v 0) W28)
      simp only [layL, Act.put, List.setIfInBounds_toArray, List.set_cons_zero, List.set_cons_succ]
      rw [v0]
      clear v0
      clear hΦ
      clear e1
      obtain ⟨s8, a8, n8, c8, b8, _⟩ := S.at 6 (g8) (IsI k2 Y) rfl; have F1 := b8.c0; have F2 := b8.c1; have F3 := b8.f0; have F4 := b8.f1
      refine wpList_step fun K hK => ?_; go_simp; refine hK _ _ ?_; clear hK K
      clear F1 F2 F3 F4 b8
      obtain ⟨W29, hW, S2, G2, _⟩ := S.put 6 (g8) (IsI k2 Y) (IsI k2 (X % Y)) rfl s53 a53 n53 c53 (IsI.gstb _ _) ⟨_, _, _, _, rfl, h53⟩
      rw [← hW]; clear hW S
      have S : St w W29 [(g15, IsI k2 (U - X / Y * T)), (g13, IsI k2 (X % Y)), (g12, IsI k2 (X / Y)), (g11, IsI k2 T), (g10, IsI k2 T), (g9, IsI k2 Y), (g8, IsI k2 (X % Y)), (g7, IsI k2 z2.natAbs), (w.heap.size + 1 + 1 + 1 + 1, IsI 0 0), (w.heap.size + 1 + 1 + 1, IsI 0 0), (w.heap.size + 1 + 1, IsI 0 0), (w.heap.size + 1, IsI k2 z2), (w.heap.size, IsI k1 z1)] := S2; clear S2 G2
      clear h53
      refine wpList_nil ?_
      go_upto_region 14 with (fail)
      refine wp_region_rgs 1 [some 54] [IsI k2 (U - X / Y * T)] [] (by decide) (by kernel_rfl) (by kernel_rfl) (by kernel_rfl) ?_ ?_ ?_ ?_
      · repeat' (first | exact trivial | exact IsV.stb _ | exact IsI.stb _ _ | exact IsB.stb _ | exact IsR.stb _ _ | exact IsMag.stb _ _ | exact IsPos.stb | apply IsT3.stb | apply IsT2.stb | apply And.intro)
      · exact (fun _ h => by cases h)
      · refine RgAll.cons (by { (with_reducible refine RgL.mk (by rfl) ?_); intro v a w' hE hd hf; have ev0 := hf.lit 15 (.pointer (some ⟨g15, 0, none⟩)) (by kernel_rfl) (by kernel_rfl); obtain ⟨s8, a8, n8, c8, b8, h8⟩ := (S.mono hE).at 0 (g15) (IsI k2 (U - X / Y * T)) rfl; have L0 := b8.c0; have L1 := b8.c1; clear hd hf; intro K hK; go_simp; exact hK.out _ _ (Ext.refl _) h8 (FreshIf.no rfl) }) ?_
        exact RgAll.nil
      intro v W30 e1 hΦ _
      replace S := S.mono e1
      obtain ⟨s54, a54, n54, c54, v0, h54⟩ := (hΦ 0 (by decide) : IsI k2 (U - X / Y * T) (v 0) W30)
      simp only [layL, Act.put, List.setIfInBounds_toArray, List.set_cons_zero, List.set_cons_succ]
      rw [v0]
      clear v0
      clear hΦ
      clear e1
      obtain ⟨s8, a8, n8, c8, b8, _⟩ := S.at 4 (g10) (IsI k2 T) rfl; have F1 := b8.c0; have F2 := b8.c1; have F3 := b8.f0; have F4 := b8.f1
      refine wpList_step fun K hK => ?_; go_simp; refine hK _ _ ?_; clear hK K
      clear F1 F2 F3 F4 b8
      obtain ⟨W31, hW, S2, G2, _⟩ := S.put 4 (g10) (IsI k2 T) (IsI k2 (U - X / Y * T)) rfl s54 a54 n54 c54 (IsI.gstb _ _) ⟨_, _, _, _, rfl, h54⟩
      rw [← hW]; clear hW S
      have S : St w W31 [(g15, IsI k2 (U - X / Y * T)), (g13, IsI k2 (X % Y)), (g12, IsI k2 (X / Y)), (g11, IsI k2 T), (g10, IsI k2 (U - X / Y * T)), (g9, IsI k2 Y), (g8, IsI k2 (X % Y)), (g7, IsI k2 z2.natAbs), (w.heap.size + 1 + 1 + 1 + 1, IsI 0 0), (w.heap.size + 1 + 1 + 1, IsI 0 0), (w.heap.size + 1 + 1, IsI 0 0), (w.heap.size + 1, IsI k2 z2), (w.heap.size, IsI k1 z1)] := S2; clear S2 G2
      clear h54
      refine wpList_nil ?_
      have S' := hid (S.tail.tail.tail)
      clear S
      go_wp2_with fail
      go_roundg (X % Y).natAbs
      case measure => exact HMS.out
      case rel => exact ⟨_, _, _, _, rfl, M1, S'⟩

theorem RBezout_v {k1 k2 : Nat} {z1 z2 : Int} {x y : Value} {w : World} (hx : IsI k1 z1 x w) (hy : IsI k2 z2 y w) (l1 : k1 ≤ 16777216) (l2 : k2 ≤ 16777216) (g u v : Int) (hz : z2 ≠ 0) (hg : (Int.gcd z1 z2 : Int) = g) (h : g = u * z1 + v * z2) (h0 : 0 ≤ u) (h1 : u < (z2 / g).natAbs) :
    Calls Tryz.prog 10 #[x, y] w (Ret w (IsT3 (IsI k2 g) (IsI k2 u) (IsI (k2 + k1 + 1) v))) := by
  refine Calls.mono (RBezout_f hx hy l1 l2 hz) fun e w' ⟨u', v', hr, h2, h3, h4⟩ => ?_
  rw [hg] at h2 h4 hr
  obtain ⟨rfl, rfl⟩ := bez_uniq z1 z2 g u v u' v' hz (hg ▸ Int.gcd_dvd_left z1 z2) (hg ▸ Int.gcd_dvd_right z1 z2) h h2 h0 h1 h3 h4
  exact hr
end Go.Proofs.YtpflfagjkmeeiaaGreatDoor
