/-
  The reference package: Pow. Every integer of at most 1024 words, every exponent, the errors included. (Printed by wip/gen/rpow.py.)
-/
import Derived.Test.YtpflfagjkmeeiaaGreatDoorRRoot
namespace Go.Proofs.YtpflfagjkmeeiaaGreatDoor
open Go Go.RowKit

set_option maxRecDepth 100000 in
set_option maxHeartbeats 4000000 in
theorem RPowrng_f {k1 : Nat} {z1 : Int} {x : Value} {w : World} (hx : IsI k1 z1 x w) (nn : Int) (hn : nn < 0 ∨ 4096 < nn) :
    Calls Tryz.prog 34 #[x, .int .i64 nn] w (Ret w (IsT2 (IsI 0 0) (IsV (.int .i64 1)))) := by
  obtain ⟨s1, a1, n1, c1, rfl, h1⟩ := hx
  rcases (by omega : nn < 0 ∨ (0 ≤ nn ∧ 4096 < nn)) with h0 | ⟨h0, hk⟩
  · have HN := hid (show decide (nn < 0) = true by simpa using h0)
    clear hn h0
    obtain ⟨W, hW, S⟩ : ∃ W, W = (w.alloc (.cells #[.bool s1, .slice a1 n1 c1] 27)).alloc (.cells #[.bool false, .slice none 0 0] 27) ∧ St w W [(w.heap.size + 1, IsI 0 0), (w.heap.size, IsI k1 z1)] := ⟨_, rfl, (((St.start w).new' (w.heap.size) (by simp) s1 a1 n1 c1 27 (IsI k1 z1) (IsI.gstb _ _) ⟨_, _, _, _, rfl, h1⟩).new' (w.heap.size + 1) (by simp) false none 0 0 27 (IsI 0 0) (IsI.gstb _ _) (IsI.nil _ _))⟩
    clear h1
    go_enter Tryz.func34, Tryz.ntmps34
    go_upto_region 1 with (fail)
    rw [← hW]
    clear hW
    refine wp_region_rgs 6 [some 7, some 8, some 9, some 10, some 11, some 12] [IsV (.int .i64 nn), IsV (.bool true), IsV (.bool true), IsV (undef), IsV (undef), IsV (.bool true)] [] (by decide) (by kernel_rfl) (by kernel_rfl) (by kernel_rfl) ?_ ?_ ?_ ?_
    · repeat' (first | exact trivial | exact IsV.stb _ | exact IsW.stb _ | exact IsWk.stb _ _ | exact IsI.stb _ _ | exact IsB.stb _ | exact IsR.stb _ _ | exact IsMag.stb _ _ | exact IsPos.stb | apply IsT3.stb | apply IsT2.stb | apply And.intro)
    · exact (fun _ h => by cases h)
    · refine RgAll.cons (by { (with_reducible refine RgL.mk (by rfl) ?_); intro v a w' hE hd hf; have ev0 := hf.lit 1 (.int .i64 nn) (by kernel_rfl) (by kernel_rfl); clear hd hf; intro K hK; go_simp; exact hK.out _ _ (Ext.refl _) rfl (FreshIf.no rfl) }) ?_
      refine RgAll.cons (by { (with_reducible refine RgL.mk (by rfl) ?_); intro v a w' hE hd hf; have d0 : v 0 = .int .i64 nn := hd 0 (by kernel_rfl); have ev0 := hf.val 0 7 _ d0 (by kernel_rfl) (by kernel_rfl) (by kernel_rfl); clear d0; have hx9 := HN.out; clear hd hf; intro K hK; go_simp; exact hK.out _ _ (Ext.refl _) rfl (FreshIf.no rfl) }) ?_
      refine RgAll.cons (by { (with_reducible refine RgL.mk (by rfl) ?_); intro v a w' hE hd hf; have d0 : v 1 = .bool true := hd 1 (by kernel_rfl); have ev0 := hf.val 1 8 _ d0 (by kernel_rfl) (by kernel_rfl) (by kernel_rfl); clear d0; clear hd hf; intro K hK; go_simp; exact hK.out _ _ (Ext.refl _) rfl (FreshIf.no rfl) }) ?_
      refine RgAll.cons (by { (with_reducible refine RgL.mkN 2 9 true (by kernel_rfl) (by kernel_rfl) (by kernel_rfl) (by kernel_rfl) (by kernel_rfl) (by kernel_rfl) ?_ (by kernel_rfl) ?_); (focus (intro _ _ h; exact h)); (focus (intro _; rfl)) }) ?_
      refine RgAll.cons (by { (with_reducible refine RgL.mkN 2 9 true (by kernel_rfl) (by kernel_rfl) (by kernel_rfl) (by kernel_rfl) (by kernel_rfl) (by kernel_rfl) ?_ (by kernel_rfl) ?_); (focus (intro _ _ h; exact h)); (focus (intro _; rfl)) }) ?_
      refine RgAll.cons (by { (with_reducible refine RgL.mk (by rfl) ?_); intro v a w' hE hd hf; have d0 : v 2 = .bool true := hd 2 (by kernel_rfl); have ev0 := hf.val 2 9 _ d0 (by kernel_rfl) (by kernel_rfl) (by kernel_rfl); clear d0; clear hd hf; intro K hK; go_simp; exact hK.out _ _ (Ext.refl _) rfl (FreshIf.no rfl) }) ?_
      exact RgAll.nil
    intro v W1 e1 hΦ _
    replace S := S.mono e1
    have v5 : v 5 = .bool true := hΦ 5 (by decide)
    simp only [layL, Act.put, List.setIfInBounds_toArray, List.set_cons_zero, List.set_cons_succ, Nat.reduceAdd]
    rw [v5]
    clear v5
    clear hΦ
    clear e1
    refine wpList_nil ?_
    go_upto_region 2 with (fail)
    refine wp_region_rgs 1 [some 13] [IsI 0 0] [] (by decide) (by kernel_rfl) (by kernel_rfl) (by kernel_rfl) ?_ ?_ ?_ ?_
    · repeat' (first | exact trivial | exact IsV.stb _ | exact IsW.stb _ | exact IsWk.stb _ _ | exact IsI.stb _ _ | exact IsB.stb _ | exact IsR.stb _ _ | exact IsMag.stb _ _ | exact IsPos.stb | apply IsT3.stb | apply IsT2.stb | apply And.intro)
    · exact (fun _ h => by cases h)
    · refine RgAll.cons (by { (with_reducible refine RgL.mk (by rfl) ?_); intro v a w' hE hd hf; skip; clear hd hf; intro K hK; go_simp; exact hK.out _ _ (Ext.refl _) (IsI.nil _ _) (FreshIf.no rfl) }) ?_
      exact RgAll.nil
    intro v W2 e1 hΦ _
    replace S := S.mono e1
    obtain ⟨s13, a13, n13, c13, v0, h13⟩ := (hΦ 0 (by decide) : IsI 0 0 (v 0) W2)
    simp only [layL, Act.put, List.setIfInBounds_toArray, List.set_cons_zero, List.set_cons_succ]
    rw [v0]
    clear v0
    clear hΦ
    clear e1
    obtain ⟨s8, a8, n8, c8, b8, _⟩ := S.at 0 (w.heap.size + 1) (IsI 0 0) rfl; have F1 := b8.c0; have F2 := b8.c1; have F3 := b8.f0; have F4 := b8.f1
    refine wpList_step fun K hK => ?_; go_simp; refine hK _ _ ?_; clear hK K
    clear F1 F2 F3 F4 b8
    obtain ⟨W3, hW, S2, G2, _⟩ := S.put 0 (w.heap.size + 1) (IsI 0 0) (IsI 0 0) rfl s13 a13 n13 c13 (IsI.gstb _ _) ⟨_, _, _, _, rfl, h13⟩
    rw [← hW]; clear hW S
    have S : St w W3 [(w.heap.size + 1, IsI 0 0), (w.heap.size, IsI k1 z1)] := S2; clear S2 G2
    clear h13
    refine wpList_step fun K hK => ?_; go_simp; refine hK _ _ ?_; clear hK K
    refine wpList_nil ?_
    go_wp2_with fail
    obtain ⟨rs0, ra0, rn0, rc0, rb0, rh0⟩ := S.at 0 (w.heap.size + 1) (IsI 0 0) rfl; have T0 := rb0.c0; have U0 := rb0.c1
    exact bodyPost_ret (v := .tuple #[.agg #[.bool rs0, .slice ra0 rn0 rc0], .int .i64 1]) (by simp [results, Tryz.results34, go_sem, T0, U0]) rfl (⟨_, rfl, S.ext, _, _, rfl, rh0, rfl⟩)
  · have H0 := hid (show decide (nn < 0) = false by simpa using h0)
    have HN := hid (show decide ((4096 : Int) < nn) = true by simpa using hk)
    clear hn h0 hk
    obtain ⟨W, hW, S⟩ : ∃ W, W = (w.alloc (.cells #[.bool s1, .slice a1 n1 c1] 27)).alloc (.cells #[.bool false, .slice none 0 0] 27) ∧ St w W [(w.heap.size + 1, IsI 0 0), (w.heap.size, IsI k1 z1)] := ⟨_, rfl, (((St.start w).new' (w.heap.size) (by simp) s1 a1 n1 c1 27 (IsI k1 z1) (IsI.gstb _ _) ⟨_, _, _, _, rfl, h1⟩).new' (w.heap.size + 1) (by simp) false none 0 0 27 (IsI 0 0) (IsI.gstb _ _) (IsI.nil _ _))⟩
    clear h1
    go_enter Tryz.func34, Tryz.ntmps34
    go_upto_region 1 with (fail)
    rw [← hW]
    clear hW
    refine wp_region_rgs 6 [some 7, some 8, some 9, some 10, some 11, some 12] [IsV (.int .i64 nn), IsV (.bool false), IsV (.bool false), IsV (.int .i64 nn), IsV (.bool true), IsV (.bool true)] [] (by decide) (by kernel_rfl) (by kernel_rfl) (by kernel_rfl) ?_ ?_ ?_ ?_
    · repeat' (first | exact trivial | exact IsV.stb _ | exact IsW.stb _ | exact IsWk.stb _ _ | exact IsI.stb _ _ | exact IsB.stb _ | exact IsR.stb _ _ | exact IsMag.stb _ _ | exact IsPos.stb | apply IsT3.stb | apply IsT2.stb | apply And.intro)
    · exact (fun _ h => by cases h)
    · refine RgAll.cons (by { (with_reducible refine RgL.mk (by rfl) ?_); intro v a w' hE hd hf; have ev0 := hf.lit 1 (.int .i64 nn) (by kernel_rfl) (by kernel_rfl); clear hd hf; intro K hK; go_simp; exact hK.out _ _ (Ext.refl _) rfl (FreshIf.no rfl) }) ?_
      refine RgAll.cons (by { (with_reducible refine RgL.mk (by rfl) ?_); intro v a w' hE hd hf; have d0 : v 0 = .int .i64 nn := hd 0 (by kernel_rfl); have ev0 := hf.val 0 7 _ d0 (by kernel_rfl) (by kernel_rfl) (by kernel_rfl); clear d0; have hx9 := H0.out; clear hd hf; intro K hK; go_simp; exact hK.out _ _ (Ext.refl _) rfl (FreshIf.no rfl) }) ?_
      refine RgAll.cons (by { (with_reducible refine RgL.mk (by rfl) ?_); intro v a w' hE hd hf; have d0 : v 1 = .bool false := hd 1 (by kernel_rfl); have ev0 := hf.val 1 8 _ d0 (by kernel_rfl) (by kernel_rfl) (by kernel_rfl); clear d0; clear hd hf; intro K hK; go_simp; exact hK.out _ _ (Ext.refl _) rfl (FreshIf.no rfl) }) ?_
      refine RgAll.cons (by { (with_reducible refine RgL.mkG 2 9 false (by rfl) (by kernel_rfl) (by kernel_rfl) (by kernel_rfl) (by kernel_rfl) (by kernel_rfl) ?_ ?_); (focus (intro _ _ h; exact h)); intro v a w' hE hd hf; have ev0 := hf.lit 1 (.int .i64 nn) (by kernel_rfl) (by kernel_rfl); clear hd hf; intro K hK; go_simp; exact hK.out _ _ (Ext.refl _) rfl (FreshIf.no rfl) }) ?_
      refine RgAll.cons (by { (with_reducible refine RgL.mkG 2 9 false (by rfl) (by kernel_rfl) (by kernel_rfl) (by kernel_rfl) (by kernel_rfl) (by kernel_rfl) ?_ ?_); (focus (intro _ _ h; exact h)); intro v a w' hE hd hf; have d0 : v 3 = .int .i64 nn := hd 3 (by kernel_rfl); have ev0 := hf.val 3 10 _ d0 (by kernel_rfl) (by kernel_rfl) (by kernel_rfl); clear d0; have hx9 := HN.out; clear hd hf; intro K hK; go_simp; exact hK.out _ _ (Ext.refl _) rfl (FreshIf.no rfl) }) ?_
      refine RgAll.cons (by { (with_reducible refine RgL.mk (by rfl) ?_); intro v a w' hE hd hf; have d0 : v 2 = .bool false := hd 2 (by kernel_rfl); have ev0 := hf.val 2 9 _ d0 (by kernel_rfl) (by kernel_rfl) (by kernel_rfl); clear d0; have d1 : v 4 = .bool true := hd 4 (by kernel_rfl); have ev1 := hf.val 4 11 _ d1 (by kernel_rfl) (by kernel_rfl) (by kernel_rfl); clear d1; clear hd hf; intro K hK; go_simp; exact hK.out _ _ (Ext.refl _) rfl (FreshIf.no rfl) }) ?_
      exact RgAll.nil
    intro v W1 e1 hΦ _
    replace S := S.mono e1
    have v5 : v 5 = .bool true := hΦ 5 (by decide)
    simp only [layL, Act.put, List.setIfInBounds_toArray, List.set_cons_zero, List.set_cons_succ, Nat.reduceAdd]
    rw [v5]
    clear v5
    clear hΦ
    clear e1
    refine wpList_nil ?_
    go_upto_region 2 with (fail)
    refine wp_region_rgs 1 [some 13] [IsI 0 0] [] (by decide) (by kernel_rfl) (by kernel_rfl) (by kernel_rfl) ?_ ?_ ?_ ?_
    · repeat' (first | exact trivial | exact IsV.stb _ | exact IsW.stb _ | exact IsWk.stb _ _ | exact IsI.stb _ _ | exact IsB.stb _ | exact IsR.stb _ _ | exact IsMag.stb _ _ | exact IsPos.stb | apply IsT3.stb | apply IsT2.stb | apply And.intro)
    · exact (fun _ h => by cases h)
    · refine RgAll.cons (by { (with_reducible refine RgL.mk (by rfl) ?_); intro v a w' hE hd hf; skip; clear hd hf; intro K hK; go_simp; exact hK.out _ _ (Ext.refl _) (IsI.nil _ _) (FreshIf.no rfl) }) ?_
      exact RgAll.nil
    intro v W2 e1 hΦ _
    replace S := S.mono e1
    obtain ⟨s13, a13, n13, c13, v0, h13⟩ := (hΦ 0 (by decide) : IsI 0 0 (v 0) W2)
    simp only [layL, Act.put, List.setIfInBounds_toArray, List.set_cons_zero, List.set_cons_succ]
    rw [v0]
    clear v0
    clear hΦ
    clear e1
    obtain ⟨s8, a8, n8, c8, b8, _⟩ := S.at 0 (w.heap.size + 1) (IsI 0 0) rfl; have F1 := b8.c0; have F2 := b8.c1; have F3 := b8.f0; have F4 := b8.f1
    refine wpList_step fun K hK => ?_; go_simp; refine hK _ _ ?_; clear hK K
    clear F1 F2 F3 F4 b8
    obtain ⟨W3, hW, S2, G2, _⟩ := S.put 0 (w.heap.size + 1) (IsI 0 0) (IsI 0 0) rfl s13 a13 n13 c13 (IsI.gstb _ _) ⟨_, _, _, _, rfl, h13⟩
    rw [← hW]; clear hW S
    have S : St w W3 [(w.heap.size + 1, IsI 0 0), (w.heap.size, IsI k1 z1)] := S2; clear S2 G2
    clear h13
    refine wpList_step fun K hK => ?_; go_simp; refine hK _ _ ?_; clear hK K
    refine wpList_nil ?_
    go_wp2_with fail
    obtain ⟨rs0, ra0, rn0, rc0, rb0, rh0⟩ := S.at 0 (w.heap.size + 1) (IsI 0 0) rfl; have T0 := rb0.c0; have U0 := rb0.c1
    exact bodyPost_ret (v := .tuple #[.agg #[.bool rs0, .slice ra0 rn0 rc0], .int .i64 1]) (by simp [results, Tryz.results34, go_sem, T0, U0]) rfl (⟨_, rfl, S.ext, _, _, rfl, rh0, rfl⟩)
set_option maxRecDepth 100000 in
set_option maxHeartbeats 4000000 in
theorem RPowbig_c {k1 : Nat} {z1 : Int} {x : Value} {w : World} (hx : IsI k1 z1 x w) (l1 : k1 ≤ 1024) (n : Nat) (h4 : n ≤ 4096) (b p : Nat) (hb : bitLen z1.natAbs = b) (hp : (b - 1) * n = p) (h1b : 1 < b) (hpb : 4096 ≤ p) :
    Calls Tryz.prog 34 #[x, .int .i64 (n : Nat)] w (Ret w (IsT2 (IsI 0 0) (IsV (.int .i64 2)))) := by
  have HB := hid hb
  have HN0 := hid (show decide (((n : Nat) : Int) < 0) = false by simp)
  have HN4 := hid (show decide ((4096 : Int) < ((n : Nat) : Int)) = false by simp; omega)
  have HNL := hid h4
  have hbl : b ≤ 32 * k1 := by rw [← hb]; exact bitLen_le _ _ hx.size
  have hpl : p ≤ 134217728 := by
    rw [← hp]
    exact Nat.le_trans (Nat.mul_le_mul (show b - 1 ≤ 32768 by omega) h4) (by decide)
  have HB1 := hid (show decide ((1 : Int) < ((b : Nat) : Int)) = true by simp; omega)
  have HW1 := hid (show IntKind.i64.wrap ((b : Int) - 1) = (b : Int) - 1 by simp only [IntKind.wrap_i64]; omega)
  have HPR := hid (show ((b : Int) - 1) * (n : Int) = (p : Int) by rw [← hp, Int.natCast_mul, Int.natCast_sub (by omega)]; rfl)
  have HPW := hid (show IntKind.i64.wrap (p : Int) = (p : Int) by simp only [IntKind.wrap_i64]; omega)
  have HPC := hid (show decide ((4096 : Int) ≤ ((p : Nat) : Int)) = true by simp; omega)
  clear h1b hpb
  clear hb hp hbl hpl h4
  obtain ⟨s1, a1, n1, c1, rfl, h1⟩ := hx
  obtain ⟨W, hW, S⟩ : ∃ W, W = (w.alloc (.cells #[.bool s1, .slice a1 n1 c1] 27)).alloc (.cells #[.bool false, .slice none 0 0] 27) ∧ St w W [(w.heap.size + 1, IsI 0 0), (w.heap.size, IsI k1 z1)] := ⟨_, rfl, (((St.start w).new' (w.heap.size) (by simp) s1 a1 n1 c1 27 (IsI k1 z1) (IsI.gstb _ _) ⟨_, _, _, _, rfl, h1⟩).new' (w.heap.size + 1) (by simp) false none 0 0 27 (IsI 0 0) (IsI.gstb _ _) (IsI.nil _ _))⟩
  clear h1
  go_enter Tryz.func34, Tryz.ntmps34
  go_upto_region 1 with (fail)
  rw [← hW]
  clear hW
  refine wp_region_rgs 6 [some 7, some 8, some 9, some 10, some 11, some 12] [IsV (.int .i64 (n : Nat)), IsV (.bool false), IsV (.bool false), IsV (.int .i64 (n : Nat)), IsV (.bool false), IsV (.bool false)] [] (by decide) (by kernel_rfl) (by kernel_rfl) (by kernel_rfl) ?_ ?_ ?_ ?_
  · repeat' (first | exact trivial | exact IsV.stb _ | exact IsW.stb _ | exact IsWk.stb _ _ | exact IsI.stb _ _ | exact IsB.stb _ | exact IsR.stb _ _ | exact IsMag.stb _ _ | exact IsPos.stb | apply IsT3.stb | apply IsT2.stb | apply And.intro)
  · exact (fun _ h => by cases h)
  · refine RgAll.cons (by { (with_reducible refine RgL.mk (by rfl) ?_); intro v a w' hE hd hf; have ev0 := hf.lit 1 (.int .i64 (n : Nat)) (by kernel_rfl) (by kernel_rfl); clear hd hf; intro K hK; go_simp; exact hK.out _ _ (Ext.refl _) rfl (FreshIf.no rfl) }) ?_
    refine RgAll.cons (by { (with_reducible refine RgL.mk (by rfl) ?_); intro v a w' hE hd hf; have d0 : v 0 = .int .i64 (n : Nat) := hd 0 (by kernel_rfl); have ev0 := hf.val 0 7 _ d0 (by kernel_rfl) (by kernel_rfl) (by kernel_rfl); clear d0; have hx9 := HN0.out; clear hd hf; intro K hK; go_simp; exact hK.out _ _ (Ext.refl _) rfl (FreshIf.no rfl) }) ?_
    refine RgAll.cons (by { (with_reducible refine RgL.mk (by rfl) ?_); intro v a w' hE hd hf; have d0 : v 1 = .bool false := hd 1 (by kernel_rfl); have ev0 := hf.val 1 8 _ d0 (by kernel_rfl) (by kernel_rfl) (by kernel_rfl); clear d0; clear hd hf; intro K hK; go_simp; exact hK.out _ _ (Ext.refl _) rfl (FreshIf.no rfl) }) ?_
    refine RgAll.cons (by { (with_reducible refine RgL.mkG 2 9 false (by rfl) (by kernel_rfl) (by kernel_rfl) (by kernel_rfl) (by kernel_rfl) (by kernel_rfl) ?_ ?_); (focus (intro _ _ h; exact h)); intro v a w' hE hd hf; have ev0 := hf.lit 1 (.int .i64 (n : Nat)) (by kernel_rfl) (by kernel_rfl); clear hd hf; intro K hK; go_simp; exact hK.out _ _ (Ext.refl _) rfl (FreshIf.no rfl) }) ?_
    refine RgAll.cons (by { (with_reducible refine RgL.mkG 2 9 false (by rfl) (by kernel_rfl) (by kernel_rfl) (by kernel_rfl) (by kernel_rfl) (by kernel_rfl) ?_ ?_); (focus (intro _ _ h; exact h)); intro v a w' hE hd hf; have d0 : v 3 = .int .i64 (n : Nat) := hd 3 (by kernel_rfl); have ev0 := hf.val 3 10 _ d0 (by kernel_rfl) (by kernel_rfl) (by kernel_rfl); clear d0; have hx9 := HN4.out; clear hd hf; intro K hK; go_simp; exact hK.out _ _ (Ext.refl _) rfl (FreshIf.no rfl) }) ?_
    refine RgAll.cons (by { (with_reducible refine RgL.mk (by rfl) ?_); intro v a w' hE hd hf; have d0 : v 2 = .bool false := hd 2 (by kernel_rfl); have ev0 := hf.val 2 9 _ d0 (by kernel_rfl) (by kernel_rfl) (by kernel_rfl); clear d0; have d1 : v 4 = .bool false := hd 4 (by kernel_rfl); have ev1 := hf.val 4 11 _ d1 (by kernel_rfl) (by kernel_rfl) (by kernel_rfl); clear d1; clear hd hf; intro K hK; go_simp; exact hK.out _ _ (Ext.refl _) rfl (FreshIf.no rfl) }) ?_
    exact RgAll.nil
  intro v W1 e1 hΦ _
  replace S := S.mono e1
  have v5 : v 5 = .bool false := hΦ 5 (by decide)
  simp only [layL, Act.put, List.setIfInBounds_toArray, List.set_cons_zero, List.set_cons_succ, Nat.reduceAdd]
  rw [v5]
  clear v5
  clear hΦ
  clear e1
  refine wpList_nil ?_
  go_upto_region 3 with (fail)
  refine wp_region_rgs 11 [some 14, some 15, some 16, some 17, some 18, some 19, some 20, some 21, some 22, some 23, some 24] [IsI k1 z1, IsV (.int .i64 (b : Nat)), IsV (.bool true), IsV (.bool true), IsI k1 z1, IsV (.int .i64 (b : Nat)), IsV (.int .i64 ((b : Nat) - 1)), IsV (.int .i64 (n : Nat)), IsV (.int .i64 (p : Nat)), IsV (.bool true), IsV (.bool true)] [] (by decide) (by kernel_rfl) (by kernel_rfl) (by kernel_rfl) ?_ ?_ ?_ ?_
  · repeat' (first | exact trivial | exact IsV.stb _ | exact IsW.stb _ | exact IsWk.stb _ _ | exact IsI.stb _ _ | exact IsB.stb _ | exact IsR.stb _ _ | exact IsMag.stb _ _ | exact IsPos.stb | apply IsT3.stb | apply IsT2.stb | apply And.intro)
  · exact (fun _ h => by cases h)
  · refine RgAll.cons (by { (with_reducible refine RgL.mk (by rfl) ?_); intro v a w' hE hd hf; have ev0 := hf.lit 2 (.pointer (some ⟨w.heap.size, 0, none⟩)) (by kernel_rfl) (by kernel_rfl); obtain ⟨s8, a8, n8, c8, b8, h8⟩ := (S.mono hE).at 1 (w.heap.size) (IsI k1 z1) rfl; have L0 := b8.c0; have L1 := b8.c1; clear hd hf; intro K hK; go_simp; exact hK.out _ _ (Ext.refl _) h8 (FreshIf.no rfl) }) ?_
    refine RgAll.cons (by { (with_reducible refine RgL.mk (by rfl) ?_); intro v a w' hE hd hf; have d0 : (IsI k1 z1) (v 0) w' := hd 0 (by kernel_rfl); have ev0 := hf.val 0 14 _ rfl (by kernel_rfl) (by kernel_rfl) (by kernel_rfl); clear hd hf; intro K hK; go_simp; go_at_call 28; go_split_ands; (with_reducible refine Calls.mono ((by have hh := RBits_f d0 (by omega); rw [HB.out] at hh; exact hh)) ?_); rintro e w2 ⟨x, rfl, e2, hx⟩; exact hK.out _ _ e2 hx (FreshIf.no rfl) }) ?_
    refine RgAll.cons (by { (with_reducible refine RgL.mk (by rfl) ?_); intro v a w' hE hd hf; have d0 : v 1 = .int .i64 (b : Nat) := hd 1 (by kernel_rfl); have ev0 := hf.val 1 15 _ d0 (by kernel_rfl) (by kernel_rfl) (by kernel_rfl); clear d0; have hx9 := HB1.out; clear hd hf; intro K hK; go_simp; exact hK.out _ _ (Ext.refl _) rfl (FreshIf.no rfl) }) ?_
    refine RgAll.cons (by { (with_reducible refine RgL.mk (by rfl) ?_); intro v a w' hE hd hf; have d0 : v 2 = .bool true := hd 2 (by kernel_rfl); have ev0 := hf.val 2 16 _ d0 (by kernel_rfl) (by kernel_rfl) (by kernel_rfl); clear d0; clear hd hf; intro K hK; go_simp; exact hK.out _ _ (Ext.refl _) rfl (FreshIf.no rfl) }) ?_
    refine RgAll.cons (by { (with_reducible refine RgL.mkG 3 17 true (by rfl) (by kernel_rfl) (by kernel_rfl) (by kernel_rfl) (by kernel_rfl) (by kernel_rfl) ?_ ?_); (focus (intro _ _ h; exact h)); intro v a w' hE hd hf; have ev0 := hf.lit 2 (.pointer (some ⟨w.heap.size, 0, none⟩)) (by kernel_rfl) (by kernel_rfl); obtain ⟨s8, a8, n8, c8, b8, h8⟩ := (S.mono hE).at 1 (w.heap.size) (IsI k1 z1) rfl; have L0 := b8.c0; have L1 := b8.c1; clear hd hf; intro K hK; go_simp; exact hK.out _ _ (Ext.refl _) h8 (FreshIf.no rfl) }) ?_
    refine RgAll.cons (by { (with_reducible refine RgL.mkG 3 17 true (by rfl) (by kernel_rfl) (by kernel_rfl) (by kernel_rfl) (by kernel_rfl) (by kernel_rfl) ?_ ?_); (focus (intro _ _ h; exact h)); intro v a w' hE hd hf; have d0 : (IsI k1 z1) (v 4) w' := hd 4 (by kernel_rfl); have ev0 := hf.val 4 18 _ rfl (by kernel_rfl) (by kernel_rfl) (by kernel_rfl); clear hd hf; intro K hK; go_simp; go_at_call 28; go_split_ands; (with_reducible refine Calls.mono ((by have hh := RBits_f d0 (by omega); rw [HB.out] at hh; exact hh)) ?_); rintro e w2 ⟨x, rfl, e2, hx⟩; exact hK.out _ _ e2 hx (FreshIf.no rfl) }) ?_
    refine RgAll.cons (by { (with_reducible refine RgL.mkG 3 17 true (by rfl) (by kernel_rfl) (by kernel_rfl) (by kernel_rfl) (by kernel_rfl) (by kernel_rfl) ?_ ?_); (focus (intro _ _ h; exact h)); intro v a w' hE hd hf; have d0 : v 5 = .int .i64 (b : Nat) := hd 5 (by kernel_rfl); have ev0 := hf.val 5 19 _ d0 (by kernel_rfl) (by kernel_rfl) (by kernel_rfl); clear d0; have hx9 := HW1.out; clear hd hf; intro K hK; go_simp; exact hK.out _ _ (Ext.refl _) rfl (FreshIf.no rfl) }) ?_
    refine RgAll.cons (by { (with_reducible refine RgL.mkG 3 17 true (by rfl) (by kernel_rfl) (by kernel_rfl) (by kernel_rfl) (by kernel_rfl) (by kernel_rfl) ?_ ?_); (focus (intro _ _ h; exact h)); intro v a w' hE hd hf; have ev0 := hf.lit 1 (.int .i64 (n : Nat)) (by kernel_rfl) (by kernel_rfl); clear hd hf; intro K hK; go_simp; exact hK.out _ _ (Ext.refl _) rfl (FreshIf.no rfl) }) ?_
    refine RgAll.cons (by { (with_reducible refine RgL.mkG 3 17 true (by rfl) (by kernel_rfl) (by kernel_rfl) (by kernel_rfl) (by kernel_rfl) (by kernel_rfl) ?_ ?_); (focus (intro _ _ h; exact h)); intro v a w' hE hd hf; have d0 : v 6 = .int .i64 ((b : Nat) - 1) := hd 6 (by kernel_rfl); have ev0 := hf.val 6 20 _ d0 (by kernel_rfl) (by kernel_rfl) (by kernel_rfl); clear d0; have d1 : v 7 = .int .i64 (n : Nat) := hd 7 (by kernel_rfl); have ev1 := hf.val 7 21 _ d1 (by kernel_rfl) (by kernel_rfl) (by kernel_rfl); clear d1; have hx9 := HPR.out; have hx8 := HPW.out; clear hd hf; intro K hK; go_simp; exact hK.out _ _ (Ext.refl _) rfl (FreshIf.no rfl) }) ?_
    refine RgAll.cons (by { (with_reducible refine RgL.mkG 3 17 true (by rfl) (by kernel_rfl) (by kernel_rfl) (by kernel_rfl) (by kernel_rfl) (by kernel_rfl) ?_ ?_); (focus (intro _ _ h; exact h)); intro v a w' hE hd hf; have d0 : v 8 = .int .i64 (p : Nat) := hd 8 (by kernel_rfl); have ev0 := hf.val 8 22 _ d0 (by kernel_rfl) (by kernel_rfl) (by kernel_rfl); clear d0; have hx9 := HPC.out; clear hd hf; intro K hK; go_simp; exact hK.out _ _ (Ext.refl _) rfl (FreshIf.no rfl) }) ?_
    refine RgAll.cons (by { (with_reducible refine RgL.mk (by rfl) ?_); intro v a w' hE hd hf; have d0 : v 3 = .bool true := hd 3 (by kernel_rfl); have ev0 := hf.val 3 17 _ d0 (by kernel_rfl) (by kernel_rfl) (by kernel_rfl); clear d0; have d1 : v 9 = .bool true := hd 9 (by kernel_rfl); have ev1 := hf.val 9 23 _ d1 (by kernel_rfl) (by kernel_rfl) (by kernel_rfl); clear d1; clear hd hf; intro K hK; go_simp; exact hK.out _ _ (Ext.refl _) rfl (FreshIf.no rfl) }) ?_
    exact RgAll.nil
  intro v W2 e1 hΦ _
  replace S := S.mono e1
  have v10 : v 10 = .bool true := hΦ 10 (by decide)
  simp only [layL, Act.put, List.setIfInBounds_toArray, List.set_cons_zero, List.set_cons_succ, Nat.reduceAdd]
  rw [v10]
  clear v10
  clear hΦ
  clear e1
  refine wpList_nil ?_
  go_upto_region 4 with (fail)
  refine wp_region_rgs 1 [some 25] [IsI 0 0] [] (by decide) (by kernel_rfl) (by kernel_rfl) (by kernel_rfl) ?_ ?_ ?_ ?_
  · repeat' (first | exact trivial | exact IsV.stb _ | exact IsW.stb _ | exact IsWk.stb _ _ | exact IsI.stb _ _ | exact IsB.stb _ | exact IsR.stb _ _ | exact IsMag.stb _ _ | exact IsPos.stb | apply IsT3.stb | apply IsT2.stb | apply And.intro)
  · exact (fun _ h => by cases h)
  · refine RgAll.cons (by { (with_reducible refine RgL.mk (by rfl) ?_); intro v a w' hE hd hf; skip; clear hd hf; intro K hK; go_simp; exact hK.out _ _ (Ext.refl _) (IsI.nil _ _) (FreshIf.no rfl) }) ?_
    exact RgAll.nil
  intro v W3 e1 hΦ _
  replace S := S.mono e1
  obtain ⟨s25, a25, n25, c25, v0, h25⟩ := (hΦ 0 (by decide) : IsI 0 0 (v 0) W3)
  simp only [layL, Act.put, List.setIfInBounds_toArray, List.set_cons_zero, List.set_cons_succ]
  rw [v0]
  clear v0
  clear hΦ
  clear e1
  obtain ⟨s8, a8, n8, c8, b8, _⟩ := S.at 0 (w.heap.size + 1) (IsI 0 0) rfl; have F1 := b8.c0; have F2 := b8.c1; have F3 := b8.f0; have F4 := b8.f1
  refine wpList_step fun K hK => ?_; go_simp; refine hK _ _ ?_; clear hK K
  clear F1 F2 F3 F4 b8
  obtain ⟨W4, hW, S2, G2, _⟩ := S.put 0 (w.heap.size + 1) (IsI 0 0) (IsI 0 0) rfl s25 a25 n25 c25 (IsI.gstb _ _) ⟨_, _, _, _, rfl, h25⟩
  rw [← hW]; clear hW S
  have S : St w W4 [(w.heap.size + 1, IsI 0 0), (w.heap.size, IsI k1 z1)] := S2; clear S2 G2
  clear h25
  refine wpList_step fun K hK => ?_; go_simp; refine hK _ _ ?_; clear hK K
  refine wpList_nil ?_
  go_wp2_with fail
  obtain ⟨rs0, ra0, rn0, rc0, rb0, rh0⟩ := S.at 0 (w.heap.size + 1) (IsI 0 0) rfl; have T0 := rb0.c0; have U0 := rb0.c1
  exact bodyPost_ret (v := .tuple #[.agg #[.bool rs0, .slice ra0 rn0 rc0], .int .i64 2]) (by simp [results, Tryz.results34, go_sem, T0, U0]) rfl (⟨_, rfl, S.ext, _, _, rfl, rh0, rfl⟩)
set_option maxRecDepth 100000 in
set_option maxHeartbeats 4000000 in
theorem RPow1_c {k1 : Nat} {z1 : Int} {x : Value} {w : World} (hx : IsI k1 z1 x w) (l1 : k1 ≤ 1024) (n : Nat) (h4 : n ≤ 4096) (b p : Nat) (hb : bitLen z1.natAbs = b) (hp : (b - 1) * n = p) (h1b : b ≤ 1) (d : Nat) (hd : bitLen (z1 ^ n).natAbs = d) (hds : d ≤ 4096) :
    Calls Tryz.prog 34 #[x, .int .i64 (n : Nat)] w (Ret w (IsT2 (IsI 128 (z1 ^ n)) (IsV (.int .i64 0)))) := by
  have HB := hid hb
  have HN0 := hid (show decide (((n : Nat) : Int) < 0) = false by simp)
  have HN4 := hid (show decide ((4096 : Int) < ((n : Nat) : Int)) = false by simp; omega)
  have HNL := hid h4
  have hbl : b ≤ 32 * k1 := by rw [← hb]; exact bitLen_le _ _ hx.size
  have hpl : p ≤ 134217728 := by
    rw [← hp]
    exact Nat.le_trans (Nat.mul_le_mul (show b - 1 ≤ 32768 by omega) h4) (by decide)
  have HB1 := hid (show decide ((1 : Int) < ((b : Nat) : Int)) = false by simp; omega)
  have HD := hid hd
  have HKN := hid (show k1 * n ≤ 4194304 from Nat.le_trans (Nat.mul_le_mul l1 h4) (by decide))
  have HD4 := hid (show decide ((4096 : Int) < ((d : Nat) : Int)) = false by simp; omega)
  have HS := hid (show (z1 ^ n).natAbs < 4294967296 ^ 128 from lt_of_bitLen _ 128 (by omega))
  clear h1b hds
  clear hb hp hbl hpl h4 hd
  obtain ⟨s1, a1, n1, c1, rfl, h1⟩ := hx
  obtain ⟨W, hW, S⟩ : ∃ W, W = (w.alloc (.cells #[.bool s1, .slice a1 n1 c1] 27)).alloc (.cells #[.bool false, .slice none 0 0] 27) ∧ St w W [(w.heap.size + 1, IsI 0 0), (w.heap.size, IsI k1 z1)] := ⟨_, rfl, (((St.start w).new' (w.heap.size) (by simp) s1 a1 n1 c1 27 (IsI k1 z1) (IsI.gstb _ _) ⟨_, _, _, _, rfl, h1⟩).new' (w.heap.size + 1) (by simp) false none 0 0 27 (IsI 0 0) (IsI.gstb _ _) (IsI.nil _ _))⟩
  clear h1
  go_enter Tryz.func34, Tryz.ntmps34
  go_upto_region 1 with (fail)
  rw [← hW]
  clear hW
  refine wp_region_rgs 6 [some 7, some 8, some 9, some 10, some 11, some 12] [IsV (.int .i64 (n : Nat)), IsV (.bool false), IsV (.bool false), IsV (.int .i64 (n : Nat)), IsV (.bool false), IsV (.bool false)] [] (by decide) (by kernel_rfl) (by kernel_rfl) (by kernel_rfl) ?_ ?_ ?_ ?_
  · repeat' (first | exact trivial | exact IsV.stb _ | exact IsW.stb _ | exact IsWk.stb _ _ | exact IsI.stb _ _ | exact IsB.stb _ | exact IsR.stb _ _ | exact IsMag.stb _ _ | exact IsPos.stb | apply IsT3.stb | apply IsT2.stb | apply And.intro)
  · exact (fun _ h => by cases h)
  · refine RgAll.cons (by { (with_reducible refine RgL.mk (by rfl) ?_); intro v a w' hE hd hf; have ev0 := hf.lit 1 (.int .i64 (n : Nat)) (by kernel_rfl) (by kernel_rfl); clear hd hf; intro K hK; go_simp; exact hK.out _ _ (Ext.refl _) rfl (FreshIf.no rfl) }) ?_
    refine RgAll.cons (by { (with_reducible refine RgL.mk (by rfl) ?_); intro v a w' hE hd hf; have d0 : v 0 = .int .i64 (n : Nat) := hd 0 (by kernel_rfl); have ev0 := hf.val 0 7 _ d0 (by kernel_rfl) (by kernel_rfl) (by kernel_rfl); clear d0; have hx9 := HN0.out; clear hd hf; intro K hK; go_simp; exact hK.out _ _ (Ext.refl _) rfl (FreshIf.no rfl) }) ?_
    refine RgAll.cons (by { (with_reducible refine RgL.mk (by rfl) ?_); intro v a w' hE hd hf; have d0 : v 1 = .bool false := hd 1 (by kernel_rfl); have ev0 := hf.val 1 8 _ d0 (by kernel_rfl) (by kernel_rfl) (by kernel_rfl); clear d0; clear hd hf; intro K hK; go_simp; exact hK.out _ _ (Ext.refl _) rfl (FreshIf.no rfl) }) ?_
    refine RgAll.cons (by { (with_reducible refine RgL.mkG 2 9 false (by rfl) (by kernel_rfl) (by kernel_rfl) (by kernel_rfl) (by kernel_rfl) (by kernel_rfl) ?_ ?_); (focus (intro _ _ h; exact h)); intro v a w' hE hd hf; have ev0 := hf.lit 1 (.int .i64 (n : Nat)) (by kernel_rfl) (by kernel_rfl); clear hd hf; intro K hK; go_simp; exact hK.out _ _ (Ext.refl _) rfl (FreshIf.no rfl) }) ?_
    refine RgAll.cons (by { (with_reducible refine RgL.mkG 2 9 false (by rfl) (by kernel_rfl) (by kernel_rfl) (by kernel_rfl) (by kernel_rfl) (by kernel_rfl) ?_ ?_); (focus (intro _ _ h; exact h)); intro v a w' hE hd hf; have d0 : v 3 = .int .i64 (n : Nat) := hd 3 (by kernel_rfl); have ev0 := hf.val 3 10 _ d0 (by kernel_rfl) (by kernel_rfl) (by kernel_rfl); clear d0; have hx9 := HN4.out; clear hd hf; intro K hK; go_simp; exact hK.out _ _ (Ext.refl _) rfl (FreshIf.no rfl) }) ?_
    refine RgAll.cons (by { (with_reducible refine RgL.mk (by rfl) ?_); intro v a w' hE hd hf; have d0 : v 2 = .bool false := hd 2 (by kernel_rfl); have ev0 := hf.val 2 9 _ d0 (by kernel_rfl) (by kernel_rfl) (by kernel_rfl); clear d0; have d1 : v 4 = .bool false := hd 4 (by kernel_rfl); have ev1 := hf.val 4 11 _ d1 (by kernel_rfl) (by kernel_rfl) (by kernel_rfl); clear d1; clear hd hf; intro K hK; go_simp; exact hK.out _ _ (Ext.refl _) rfl (FreshIf.no rfl) }) ?_
    exact RgAll.nil
  intro v W1 e1 hΦ _
  replace S := S.mono e1
  have v5 : v 5 = .bool false := hΦ 5 (by decide)
  simp only [layL, Act.put, List.setIfInBounds_toArray, List.set_cons_zero, List.set_cons_succ, Nat.reduceAdd]
  rw [v5]
  clear v5
  clear hΦ
  clear e1
  refine wpList_nil ?_
  go_upto_region 3 with (fail)
  refine wp_region_rgs 11 [some 14, some 15, some 16, some 17, some 18, some 19, some 20, some 21, some 22, some 23, some 24] [IsI k1 z1, IsV (.int .i64 (b : Nat)), IsV (.bool false), IsV (.bool false), IsV (undef), IsV (undef), IsV (undef), IsV (undef), IsV (undef), IsV (undef), IsV (.bool false)] [] (by decide) (by kernel_rfl) (by kernel_rfl) (by kernel_rfl) ?_ ?_ ?_ ?_
  · repeat' (first | exact trivial | exact IsV.stb _ | exact IsW.stb _ | exact IsWk.stb _ _ | exact IsI.stb _ _ | exact IsB.stb _ | exact IsR.stb _ _ | exact IsMag.stb _ _ | exact IsPos.stb | apply IsT3.stb | apply IsT2.stb | apply And.intro)
  · exact (fun _ h => by cases h)
  · refine RgAll.cons (by { (with_reducible refine RgL.mk (by rfl) ?_); intro v a w' hE hd hf; have ev0 := hf.lit 2 (.pointer (some ⟨w.heap.size, 0, none⟩)) (by kernel_rfl) (by kernel_rfl); obtain ⟨s8, a8, n8, c8, b8, h8⟩ := (S.mono hE).at 1 (w.heap.size) (IsI k1 z1) rfl; have L0 := b8.c0; have L1 := b8.c1; clear hd hf; intro K hK; go_simp; exact hK.out _ _ (Ext.refl _) h8 (FreshIf.no rfl) }) ?_
    refine RgAll.cons (by { (with_reducible refine RgL.mk (by rfl) ?_); intro v a w' hE hd hf; have d0 : (IsI k1 z1) (v 0) w' := hd 0 (by kernel_rfl); have ev0 := hf.val 0 14 _ rfl (by kernel_rfl) (by kernel_rfl) (by kernel_rfl); clear hd hf; intro K hK; go_simp; go_at_call 28; go_split_ands; (with_reducible refine Calls.mono ((by have hh := RBits_f d0 (by omega); rw [HB.out] at hh; exact hh)) ?_); rintro e w2 ⟨x, rfl, e2, hx⟩; exact hK.out _ _ e2 hx (FreshIf.no rfl) }) ?_
    refine RgAll.cons (by { (with_reducible refine RgL.mk (by rfl) ?_); intro v a w' hE hd hf; have d0 : v 1 = .int .i64 (b : Nat) := hd 1 (by kernel_rfl); have ev0 := hf.val 1 15 _ d0 (by kernel_rfl) (by kernel_rfl) (by kernel_rfl); clear d0; have hx9 := HB1.out; clear hd hf; intro K hK; go_simp; exact hK.out _ _ (Ext.refl _) rfl (FreshIf.no rfl) }) ?_
    refine RgAll.cons (by { (with_reducible refine RgL.mk (by rfl) ?_); intro v a w' hE hd hf; have d0 : v 2 = .bool false := hd 2 (by kernel_rfl); have ev0 := hf.val 2 16 _ d0 (by kernel_rfl) (by kernel_rfl) (by kernel_rfl); clear d0; clear hd hf; intro K hK; go_simp; exact hK.out _ _ (Ext.refl _) rfl (FreshIf.no rfl) }) ?_
    refine RgAll.cons (by { (with_reducible refine RgL.mkN 3 17 false (by kernel_rfl) (by kernel_rfl) (by kernel_rfl) (by kernel_rfl) (by kernel_rfl) (by kernel_rfl) ?_ (by kernel_rfl) ?_); (focus (intro _ _ h; exact h)); (focus (intro _; rfl)) }) ?_
    refine RgAll.cons (by { (with_reducible refine RgL.mkN 3 17 false (by kernel_rfl) (by kernel_rfl) (by kernel_rfl) (by kernel_rfl) (by kernel_rfl) (by kernel_rfl) ?_ (by kernel_rfl) ?_); (focus (intro _ _ h; exact h)); (focus (intro _; rfl)) }) ?_
    refine RgAll.cons (by { (with_reducible refine RgL.mkN 3 17 false (by kernel_rfl) (by kernel_rfl) (by kernel_rfl) (by kernel_rfl) (by kernel_rfl) (by kernel_rfl) ?_ (by kernel_rfl) ?_); (focus (intro _ _ h; exact h)); (focus (intro _; rfl)) }) ?_
    refine RgAll.cons (by { (with_reducible refine RgL.mkN 3 17 false (by kernel_rfl) (by kernel_rfl) (by kernel_rfl) (by kernel_rfl) (by kernel_rfl) (by kernel_rfl) ?_ (by kernel_rfl) ?_); (focus (intro _ _ h; exact h)); (focus (intro _; rfl)) }) ?_
    refine RgAll.cons (by { (with_reducible refine RgL.mkN 3 17 false (by kernel_rfl) (by kernel_rfl) (by kernel_rfl) (by kernel_rfl) (by kernel_rfl) (by kernel_rfl) ?_ (by kernel_rfl) ?_); (focus (intro _ _ h; exact h)); (focus (intro _; rfl)) }) ?_
    refine RgAll.cons (by { (with_reducible refine RgL.mkN 3 17 false (by kernel_rfl) (by kernel_rfl) (by kernel_rfl) (by kernel_rfl) (by kernel_rfl) (by kernel_rfl) ?_ (by kernel_rfl) ?_); (focus (intro _ _ h; exact h)); (focus (intro _; rfl)) }) ?_
    refine RgAll.cons (by { (with_reducible refine RgL.mk (by rfl) ?_); intro v a w' hE hd hf; have d0 : v 3 = .bool false := hd 3 (by kernel_rfl); have ev0 := hf.val 3 17 _ d0 (by kernel_rfl) (by kernel_rfl) (by kernel_rfl); clear d0; clear hd hf; intro K hK; go_simp; exact hK.out _ _ (Ext.refl _) rfl (FreshIf.no rfl) }) ?_
    exact RgAll.nil
  intro v W2 e1 hΦ _
  replace S := S.mono e1
  have v10 : v 10 = .bool false := hΦ 10 (by decide)
  simp only [layL, Act.put, List.setIfInBounds_toArray, List.set_cons_zero, List.set_cons_succ, Nat.reduceAdd]
  rw [v10]
  clear v10
  clear hΦ
  clear e1
  refine wpList_nil ?_
  go_upto_region 5 with (fail)
  have hl := hid S.lt; have hw := S.ext.size
  refine wp_region_rgs 4 [some 26, some 27, some 28, some 6] [IsI k1 z1, IsV (.int .i64 (n : Nat)), IsI (k1 * n + 2) (z1 ^ n), IsB W2] [3] (by decide) (by kernel_rfl) (by kernel_rfl) (by kernel_rfl) ?_ ?_ ?_ ?_
  · repeat' (first | exact trivial | exact IsV.stb _ | exact IsW.stb _ | exact IsWk.stb _ _ | exact IsI.stb _ _ | exact IsB.stb _ | exact IsR.stb _ _ | exact IsMag.stb _ _ | exact IsPos.stb | apply IsT3.stb | apply IsT2.stb | apply And.intro)
  · intro i hi; simp only [List.mem_cons, List.not_mem_nil, or_false] at hi; subst hi; exact IsB.box _
  · refine RgAll.cons (by { (with_reducible refine RgL.mk (by rfl) ?_); intro v a w' hE hd hf; have ev0 := hf.lit 2 (.pointer (some ⟨w.heap.size, 0, none⟩)) (by kernel_rfl) (by kernel_rfl); obtain ⟨s8, a8, n8, c8, b8, h8⟩ := (S.mono hE).at 1 (w.heap.size) (IsI k1 z1) rfl; have L0 := b8.c0; have L1 := b8.c1; clear hd hf; intro K hK; go_simp; exact hK.out _ _ (Ext.refl _) h8 (FreshIf.no rfl) }) ?_
    refine RgAll.cons (by { (with_reducible refine RgL.mk (by rfl) ?_); intro v a w' hE hd hf; have ev0 := hf.lit 1 (.int .i64 (n : Nat)) (by kernel_rfl) (by kernel_rfl); clear hd hf; intro K hK; go_simp; exact hK.out _ _ (Ext.refl _) rfl (FreshIf.no rfl) }) ?_
    refine RgAll.cons (by { (with_reducible refine RgL.mk (by rfl) ?_); intro v a w' hE hd hf; have d0 : (IsI k1 z1) (v 0) w' := hd 0 (by kernel_rfl); have ev0 := hf.val 0 26 _ rfl (by kernel_rfl) (by kernel_rfl) (by kernel_rfl); have d1 : v 1 = .int .i64 (n : Nat) := hd 1 (by kernel_rfl); have ev1 := hf.val 1 27 _ d1 (by kernel_rfl) (by kernel_rfl) (by kernel_rfl); clear d1; clear hd hf; intro K hK; go_simp; go_at_call 36; go_split_ands; (with_reducible refine Calls.mono (RPower_f d0 n (by have := HKN.out; omega) (by have := HNL.out; omega)) ?_); rintro e w2 ⟨x, rfl, e2, hx⟩; exact hK.out _ _ e2 hx (FreshIf.no rfl) }) ?_
    refine RgAll.cons (by { (with_reducible refine RgL.mk (by rfl) ?_); intro v a w' hE hd hf; skip; clear hd hf; intro K hK; go_simp; refine hK.out _ _ ((Ext.refl _).alloc _) ⟨_, rfl, hE.size, Bx.new _ _ _ _ _⟩ FreshIf.yes }) ?_
    exact RgAll.nil
  intro v W3 e1 hΦ _
  replace S := S.mono e1
  obtain ⟨s28, a28, n28, c28, v2, h28⟩ := (hΦ 2 (by decide) : IsI (k1 * n + 2) (z1 ^ n) (v 2) W3)
  obtain ⟨g6, v3, q2, b1⟩ := (hΦ 3 (by decide) : IsB W2 (v 3) W3)
  replace S := S.addN (Apart.old hl.out q2) (Nat.le_trans hw q2) b1
  clear b1
  simp only [layL, Act.put, List.setIfInBounds_toArray, List.set_cons_zero, List.set_cons_succ, Nat.reduceAdd]
  rw [v2, v3]
  clear v2 v3
  clear hΦ
  clear hl hw
  clear e1
  obtain ⟨s8, a8, n8, c8, b8, _⟩ := S.at 0 (g6) (IsI 0 0) rfl; have F1 := b8.c0; have F2 := b8.c1; have F3 := b8.f0; have F4 := b8.f1
  refine wpList_step fun K hK => ?_; go_simp; refine hK _ _ ?_; clear hK K
  clear F1 F2 F3 F4 b8
  obtain ⟨W4, hW, S2, G2, _⟩ := S.put 0 (g6) (IsI 0 0) (IsI (k1 * n + 2) (z1 ^ n)) rfl s28 a28 n28 c28 (IsI.gstb _ _) ⟨_, _, _, _, rfl, h28⟩
  rw [← hW]; clear hW S
  have S : St w W4 [(g6, IsI (k1 * n + 2) (z1 ^ n)), (w.heap.size + 1, IsI 0 0), (w.heap.size, IsI k1 z1)] := S2; clear S2 G2
  clear h28
  refine wpList_nil ?_
  go_upto_region 6 with (fail)
  refine wp_region_rgs 3 [some 29, some 30, some 31] [IsI (k1 * n + 2) (z1 ^ n), IsV (.int .i64 (d : Nat)), IsV (.bool false)] [] (by decide) (by kernel_rfl) (by kernel_rfl) (by kernel_rfl) ?_ ?_ ?_ ?_
  · repeat' (first | exact trivial | exact IsV.stb _ | exact IsW.stb _ | exact IsWk.stb _ _ | exact IsI.stb _ _ | exact IsB.stb _ | exact IsR.stb _ _ | exact IsMag.stb _ _ | exact IsPos.stb | apply IsT3.stb | apply IsT2.stb | apply And.intro)
  · exact (fun _ h => by cases h)
  · refine RgAll.cons (by { (with_reducible refine RgL.mk (by rfl) ?_); intro v a w' hE hd hf; have ev0 := hf.lit 6 (.pointer (some ⟨g6, 0, none⟩)) (by kernel_rfl) (by kernel_rfl); obtain ⟨s8, a8, n8, c8, b8, h8⟩ := (S.mono hE).at 0 (g6) (IsI (k1 * n + 2) (z1 ^ n)) rfl; have L0 := b8.c0; have L1 := b8.c1; clear hd hf; intro K hK; go_simp; exact hK.out _ _ (Ext.refl _) h8 (FreshIf.no rfl) }) ?_
    refine RgAll.cons (by { (with_reducible refine RgL.mk (by rfl) ?_); intro v a w' hE hd hf; have d0 : (IsI (k1 * n + 2) (z1 ^ n)) (v 0) w' := hd 0 (by kernel_rfl); have ev0 := hf.val 0 29 _ rfl (by kernel_rfl) (by kernel_rfl) (by kernel_rfl); clear hd hf; intro K hK; go_simp; go_at_call 28; go_split_ands; (with_reducible refine Calls.mono ((by have hh := RBits_f d0 (by have := HKN.out; omega); rw [HD.out] at hh; exact hh)) ?_); rintro e w2 ⟨x, rfl, e2, hx⟩; exact hK.out _ _ e2 hx (FreshIf.no rfl) }) ?_
    refine RgAll.cons (by { (with_reducible refine RgL.mk (by rfl) ?_); intro v a w' hE hd hf; have d0 : v 1 = .int .i64 (d : Nat) := hd 1 (by kernel_rfl); have ev0 := hf.val 1 30 _ d0 (by kernel_rfl) (by kernel_rfl) (by kernel_rfl); clear d0; have hx9 := HD4.out; clear hd hf; intro K hK; go_simp; exact hK.out _ _ (Ext.refl _) rfl (FreshIf.no rfl) }) ?_
    exact RgAll.nil
  intro v W5 e1 hΦ _
  replace S := S.mono e1
  have v2 : v 2 = .bool false := hΦ 2 (by decide)
  simp only [layL, Act.put, List.setIfInBounds_toArray, List.set_cons_zero, List.set_cons_succ, Nat.reduceAdd]
  rw [v2]
  clear v2
  clear hΦ
  clear e1
  refine wpList_nil ?_
  go_upto_region 8 with (fail)
  refine wp_region_rgs 1 [some 33] [IsI (k1 * n + 2) (z1 ^ n)] [] (by decide) (by kernel_rfl) (by kernel_rfl) (by kernel_rfl) ?_ ?_ ?_ ?_
  · repeat' (first | exact trivial | exact IsV.stb _ | exact IsW.stb _ | exact IsWk.stb _ _ | exact IsI.stb _ _ | exact IsB.stb _ | exact IsR.stb _ _ | exact IsMag.stb _ _ | exact IsPos.stb | apply IsT3.stb | apply IsT2.stb | apply And.intro)
  · exact (fun _ h => by cases h)
  · refine RgAll.cons (by { (with_reducible refine RgL.mk (by rfl) ?_); intro v a w' hE hd hf; have ev0 := hf.lit 6 (.pointer (some ⟨g6, 0, none⟩)) (by kernel_rfl) (by kernel_rfl); obtain ⟨s8, a8, n8, c8, b8, h8⟩ := (S.mono hE).at 0 (g6) (IsI (k1 * n + 2) (z1 ^ n)) rfl; have L0 := b8.c0; have L1 := b8.c1; clear hd hf; intro K hK; go_simp; exact hK.out _ _ (Ext.refl _) h8 (FreshIf.no rfl) }) ?_
    exact RgAll.nil
  intro v W6 e1 hΦ _
  replace S := S.mono e1
  obtain ⟨s33, a33, n33, c33, v0, h33⟩ := (hΦ 0 (by decide) : IsI (k1 * n + 2) (z1 ^ n) (v 0) W6)
  simp only [layL, Act.put, List.setIfInBounds_toArray, List.set_cons_zero, List.set_cons_succ]
  rw [v0]
  clear v0
  clear hΦ
  clear e1
  obtain ⟨s8, a8, n8, c8, b8, _⟩ := S.at 1 (w.heap.size + 1) (IsI 0 0) rfl; have F1 := b8.c0; have F2 := b8.c1; have F3 := b8.f0; have F4 := b8.f1
  refine wpList_step fun K hK => ?_; go_simp; refine hK _ _ ?_; clear hK K
  clear F1 F2 F3 F4 b8
  obtain ⟨W7, hW, S2, G2, _⟩ := S.put 1 (w.heap.size + 1) (IsI 0 0) (IsI (k1 * n + 2) (z1 ^ n)) rfl s33 a33 n33 c33 (IsI.gstb _ _) ⟨_, _, _, _, rfl, h33⟩
  rw [← hW]; clear hW S
  have S : St w W7 [(g6, IsI (k1 * n + 2) (z1 ^ n)), (w.heap.size + 1, IsI (k1 * n + 2) (z1 ^ n)), (w.heap.size, IsI k1 z1)] := S2; clear S2 G2
  clear h33
  refine wpList_step fun K hK => ?_; go_simp; refine hK _ _ ?_; clear hK K
  refine wpList_nil ?_
  go_wp2_with fail
  obtain ⟨rs0, ra0, rn0, rc0, rb0, rh0⟩ := S.at 1 (w.heap.size + 1) (IsI (k1 * n + 2) (z1 ^ n)) rfl; have T0 := rb0.c0; have U0 := rb0.c1
  exact bodyPost_ret (v := .tuple #[.agg #[.bool rs0, .slice ra0 rn0 rc0], .int .i64 0]) (by simp [results, Tryz.results34, go_sem, T0, U0]) rfl (⟨_, rfl, S.ext, _, _, rfl, IsI.tight rh0 HS.out, rfl⟩)
set_option maxRecDepth 100000 in
set_option maxHeartbeats 4000000 in
theorem RPow1h_c {k1 : Nat} {z1 : Int} {x : Value} {w : World} (hx : IsI k1 z1 x w) (l1 : k1 ≤ 1024) (n : Nat) (h4 : n ≤ 4096) (b p : Nat) (hb : bitLen z1.natAbs = b) (hp : (b - 1) * n = p) (h1b : b ≤ 1) (d : Nat) (hd : bitLen (z1 ^ n).natAbs = d) (hds : 4096 < d) :
    Calls Tryz.prog 34 #[x, .int .i64 (n : Nat)] w (Ret w (IsT2 (IsI 0 0) (IsV (.int .i64 2)))) := by
  have HB := hid hb
  have HN0 := hid (show decide (((n : Nat) : Int) < 0) = false by simp)
  have HN4 := hid (show decide ((4096 : Int) < ((n : Nat) : Int)) = false by simp; omega)
  have HNL := hid h4
  have hbl : b ≤ 32 * k1 := by rw [← hb]; exact bitLen_le _ _ hx.size
  have hpl : p ≤ 134217728 := by
    rw [← hp]
    exact Nat.le_trans (Nat.mul_le_mul (show b - 1 ≤ 32768 by omega) h4) (by decide)
  have HB1 := hid (show decide ((1 : Int) < ((b : Nat) : Int)) = false by simp; omega)
  have HD := hid hd
  have HKN := hid (show k1 * n ≤ 4194304 from Nat.le_trans (Nat.mul_le_mul l1 h4) (by decide))
  have HD4 := hid (show decide ((4096 : Int) < ((d : Nat) : Int)) = true by simp; omega)
  clear h1b hds
  clear hb hp hbl hpl h4 hd
  obtain ⟨s1, a1, n1, c1, rfl, h1⟩ := hx
  obtain ⟨W, hW, S⟩ : ∃ W, W = (w.alloc (.cells #[.bool s1, .slice a1 n1 c1] 27)).alloc (.cells #[.bool false, .slice none 0 0] 27) ∧ St w W [(w.heap.size + 1, IsI 0 0), (w.heap.size, IsI k1 z1)] := ⟨_, rfl, (((St.start w).new' (w.heap.size) (by simp) s1 a1 n1 c1 27 (IsI k1 z1) (IsI.gstb _ _) ⟨_, _, _, _, rfl, h1⟩).new' (w.heap.size + 1) (by simp) false none 0 0 27 (IsI 0 0) (IsI.gstb _ _) (IsI.nil _ _))⟩
  clear h1
  go_enter Tryz.func34, Tryz.ntmps34
  go_upto_region 1 with (fail)
  rw [← hW]
  clear hW
  refine wp_region_rgs 6 [some 7, some 8, some 9, some 10, some 11, some 12] [IsV (.int .i64 (n : Nat)), IsV (.bool false), IsV (.bool false), IsV (.int .i64 (n : Nat)), IsV (.bool false), IsV (.bool false)] [] (by decide) (by kernel_rfl) (by kernel_rfl) (by kernel_rfl) ?_ ?_ ?_ ?_
  · repeat' (first | exact trivial | exact IsV.stb _ | exact IsW.stb _ | exact IsWk.stb _ _ | exact IsI.stb _ _ | exact IsB.stb _ | exact IsR.stb _ _ | exact IsMag.stb _ _ | exact IsPos.stb | apply IsT3.stb | apply IsT2.stb | apply And.intro)
  · exact (fun _ h => by cases h)
  · refine RgAll.cons (by { (with_reducible refine RgL.mk (by rfl) ?_); intro v a w' hE hd hf; have ev0 := hf.lit 1 (.int .i64 (n : Nat)) (by kernel_rfl) (by kernel_rfl); clear hd hf; intro K hK; go_simp; exact hK.out _ _ (Ext.refl _) rfl (FreshIf.no rfl) }) ?_
    refine RgAll.cons (by { (with_reducible refine RgL.mk (by rfl) ?_); intro v a w' hE hd hf; have d0 : v 0 = .int .i64 (n : Nat) := hd 0 (by kernel_rfl); have ev0 := hf.val 0 7 _ d0 (by kernel_rfl) (by kernel_rfl) (by kernel_rfl); clear d0; have hx9 := HN0.out; clear hd hf; intro K hK; go_simp; exact hK.out _ _ (Ext.refl _) rfl (FreshIf.no rfl) }) ?_
    refine RgAll.cons (by { (with_reducible refine RgL.mk (by rfl) ?_); intro v a w' hE hd hf; have d0 : v 1 = .bool false := hd 1 (by kernel_rfl); have ev0 := hf.val 1 8 _ d0 (by kernel_rfl) (by kernel_rfl) (by kernel_rfl); clear d0; clear hd hf; intro K hK; go_simp; exact hK.out _ _ (Ext.refl _) rfl (FreshIf.no rfl) }) ?_
    refine RgAll.cons (by { (with_reducible refine RgL.mkG 2 9 false (by rfl) (by kernel_rfl) (by kernel_rfl) (by kernel_rfl) (by kernel_rfl) (by kernel_rfl) ?_ ?_); (focus (intro _ _ h; exact h)); intro v a w' hE hd hf; have ev0 := hf.lit 1 (.int .i64 (n : Nat)) (by kernel_rfl) (by kernel_rfl); clear hd hf; intro K hK; go_simp; exact hK.out _ _ (Ext.refl _) rfl (FreshIf.no rfl) }) ?_
    refine RgAll.cons (by { (with_reducible refine RgL.mkG 2 9 false (by rfl) (by kernel_rfl) (by kernel_rfl) (by kernel_rfl) (by kernel_rfl) (by kernel_rfl) ?_ ?_); (focus (intro _ _ h; exact h)); intro v a w' hE hd hf; have d0 : v 3 = .int .i64 (n : Nat) := hd 3 (by kernel_rfl); have ev0 := hf.val 3 10 _ d0 (by kernel_rfl) (by kernel_rfl) (by kernel_rfl); clear d0; have hx9 := HN4.out; clear hd hf; intro K hK; go_simp; exact hK.out _ _ (Ext.refl _) rfl (FreshIf.no rfl) }) ?_
    refine RgAll.cons (by { (with_reducible refine RgL.mk (by rfl) ?_); intro v a w' hE hd hf; have d0 : v 2 = .bool false := hd 2 (by kernel_rfl); have ev0 := hf.val 2 9 _ d0 (by kernel_rfl) (by kernel_rfl) (by kernel_rfl); clear d0; have d1 : v 4 = .bool false := hd 4 (by kernel_rfl); have ev1 := hf.val 4 11 _ d1 (by kernel_rfl) (by kernel_rfl) (by kernel_rfl); clear d1; clear hd hf; intro K hK; go_simp; exact hK.out _ _ (Ext.refl _) rfl (FreshIf.no rfl) }) ?_
    exact RgAll.nil
  intro v W1 e1 hΦ _
  replace S := S.mono e1
  have v5 : v 5 = .bool false := hΦ 5 (by decide)
  simp only [layL, Act.put, List.setIfInBounds_toArray, List.set_cons_zero, List.set_cons_succ, Nat.reduceAdd]
  rw [v5]
  clear v5
  clear hΦ
  clear e1
  refine wpList_nil ?_
  go_upto_region 3 with (fail)
  refine wp_region_rgs 11 [some 14, some 15, some 16, some 17, some 18, some 19, some 20, some 21, some 22, some 23, some 24] [IsI k1 z1, IsV (.int .i64 (b : Nat)), IsV (.bool false), IsV (.bool false), IsV (undef), IsV (undef), IsV (undef), IsV (undef), IsV (undef), IsV (undef), IsV (.bool false)] [] (by decide) (by kernel_rfl) (by kernel_rfl) (by kernel_rfl) ?_ ?_ ?_ ?_
  · repeat' (first | exact trivial | exact IsV.stb _ | exact IsW.stb _ | exact IsWk.stb _ _ | exact IsI.stb _ _ | exact IsB.stb _ | exact IsR.stb _ _ | exact IsMag.stb _ _ | exact IsPos.stb | apply IsT3.stb | apply IsT2.stb | apply And.intro)
  · exact (fun _ h => by cases h)
  · refine RgAll.cons (by { (with_reducible refine RgL.mk (by rfl) ?_); intro v a w' hE hd hf; have ev0 := hf.lit 2 (.pointer (some ⟨w.heap.size, 0, none⟩)) (by kernel_rfl) (by kernel_rfl); obtain ⟨s8, a8, n8, c8, b8, h8⟩ := (S.mono hE).at 1 (w.heap.size) (IsI k1 z1) rfl; have L0 := b8.c0; have L1 := b8.c1; clear hd hf; intro K hK; go_simp; exact hK.out _ _ (Ext.refl _) h8 (FreshIf.no rfl) }) ?_
    refine RgAll.cons (by { (with_reducible refine RgL.mk (by rfl) ?_); intro v a w' hE hd hf; have d0 : (IsI k1 z1) (v 0) w' := hd 0 (by kernel_rfl); have ev0 := hf.val 0 14 _ rfl (by kernel_rfl) (by kernel_rfl) (by kernel_rfl); clear hd hf; intro K hK; go_simp; go_at_call 28; go_split_ands; (with_reducible refine Calls.mono ((by have hh := RBits_f d0 (by omega); rw [HB.out] at hh; exact hh)) ?_); rintro e w2 ⟨x, rfl, e2, hx⟩; exact hK.out _ _ e2 hx (FreshIf.no rfl) }) ?_
    refine RgAll.cons (by { (with_reducible refine RgL.mk (by rfl) ?_); intro v a w' hE hd hf; have d0 : v 1 = .int .i64 (b : Nat) := hd 1 (by kernel_rfl); have ev0 := hf.val 1 15 _ d0 (by kernel_rfl) (by kernel_rfl) (by kernel_rfl); clear d0; have hx9 := HB1.out; clear hd hf; intro K hK; go_simp; exact hK.out _ _ (Ext.refl _) rfl (FreshIf.no rfl) }) ?_
    refine RgAll.cons (by { (with_reducible refine RgL.mk (by rfl) ?_); intro v a w' hE hd hf; have d0 : v 2 = .bool false := hd 2 (by kernel_rfl); have ev0 := hf.val 2 16 _ d0 (by kernel_rfl) (by kernel_rfl) (by kernel_rfl); clear d0; clear hd hf; intro K hK; go_simp; exact hK.out _ _ (Ext.refl _) rfl (FreshIf.no rfl) }) ?_
    refine RgAll.cons (by { (with_reducible refine RgL.mkN 3 17 false (by kernel_rfl) (by kernel_rfl) (by kernel_rfl) (by kernel_rfl) (by kernel_rfl) (by kernel_rfl) ?_ (by kernel_rfl) ?_); (focus (intro _ _ h; exact h)); (focus (intro _; rfl)) }) ?_
    refine RgAll.cons (by { (with_reducible refine RgL.mkN 3 17 false (by kernel_rfl) (by kernel_rfl) (by kernel_rfl) (by kernel_rfl) (by kernel_rfl) (by kernel_rfl) ?_ (by kernel_rfl) ?_); (focus (intro _ _ h; exact h)); (focus (intro _; rfl)) }) ?_
    refine RgAll.cons (by { (with_reducible refine RgL.mkN 3 17 false (by kernel_rfl) (by kernel_rfl) (by kernel_rfl) (by kernel_rfl) (by kernel_rfl) (by kernel_rfl) ?_ (by kernel_rfl) ?_); (focus (intro _ _ h; exact h)); (focus (intro _; rfl)) }) ?_
    refine RgAll.cons (by { (with_reducible refine RgL.mkN 3 17 false (by kernel_rfl) (by kernel_rfl) (by kernel_rfl) (by kernel_rfl) (by kernel_rfl) (by kernel_rfl) ?_ (by kernel_rfl) ?_); (focus (intro _ _ h; exact h)); (focus (intro _; rfl)) }) ?_
    refine RgAll.cons (by { (with_reducible refine RgL.mkN 3 17 false (by kernel_rfl) (by kernel_rfl) (by kernel_rfl) (by kernel_rfl) (by kernel_rfl) (by kernel_rfl) ?_ (by kernel_rfl) ?_); (focus (intro _ _ h; exact h)); (focus (intro _; rfl)) }) ?_
    refine RgAll.cons (by { (with_reducible refine RgL.mkN 3 17 false (by kernel_rfl) (by kernel_rfl) (by kernel_rfl) (by kernel_rfl) (by kernel_rfl) (by kernel_rfl) ?_ (by kernel_rfl) ?_); (focus (intro _ _ h; exact h)); (focus (intro _; rfl)) }) ?_
    refine RgAll.cons (by { (with_reducible refine RgL.mk (by rfl) ?_); intro v a w' hE hd hf; have d0 : v 3 = .bool false := hd 3 (by kernel_rfl); have ev0 := hf.val 3 17 _ d0 (by kernel_rfl) (by kernel_rfl) (by kernel_rfl); clear d0; clear hd hf; intro K hK; go_simp; exact hK.out _ _ (Ext.refl _) rfl (FreshIf.no rfl) }) ?_
    exact RgAll.nil
  intro v W2 e1 hΦ _
  replace S := S.mono e1
  have v10 : v 10 = .bool false := hΦ 10 (by decide)
  simp only [layL, Act.put, List.setIfInBounds_toArray, List.set_cons_zero, List.set_cons_succ, Nat.reduceAdd]
  rw [v10]
  clear v10
  clear hΦ
  clear e1
  refine wpList_nil ?_
  go_upto_region 5 with (fail)
  have hl := hid S.lt; have hw := S.ext.size
  refine wp_region_rgs 4 [some 26, some 27, some 28, some 6] [IsI k1 z1, IsV (.int .i64 (n : Nat)), IsI (k1 * n + 2) (z1 ^ n), IsB W2] [3] (by decide) (by kernel_rfl) (by kernel_rfl) (by kernel_rfl) ?_ ?_ ?_ ?_
  · repeat' (first | exact trivial | exact IsV.stb _ | exact IsW.stb _ | exact IsWk.stb _ _ | exact IsI.stb _ _ | exact IsB.stb _ | exact IsR.stb _ _ | exact IsMag.stb _ _ | exact IsPos.stb | apply IsT3.stb | apply IsT2.stb | apply And.intro)
  · intro i hi; simp only [List.mem_cons, List.not_mem_nil, or_false] at hi; subst hi; exact IsB.box _
  · refine RgAll.cons (by { (with_reducible refine RgL.mk (by rfl) ?_); intro v a w' hE hd hf; have ev0 := hf.lit 2 (.pointer (some ⟨w.heap.size, 0, none⟩)) (by kernel_rfl) (by kernel_rfl); obtain ⟨s8, a8, n8, c8, b8, h8⟩ := (S.mono hE).at 1 (w.heap.size) (IsI k1 z1) rfl; have L0 := b8.c0; have L1 := b8.c1; clear hd hf; intro K hK; go_simp; exact hK.out _ _ (Ext.refl _) h8 (FreshIf.no rfl) }) ?_
    refine RgAll.cons (by { (with_reducible refine RgL.mk (by rfl) ?_); intro v a w' hE hd hf; have ev0 := hf.lit 1 (.int .i64 (n : Nat)) (by kernel_rfl) (by kernel_rfl); clear hd hf; intro K hK; go_simp; exact hK.out _ _ (Ext.refl _) rfl (FreshIf.no rfl) }) ?_
    refine RgAll.cons (by { (with_reducible refine RgL.mk (by rfl) ?_); intro v a w' hE hd hf; have d0 : (IsI k1 z1) (v 0) w' := hd 0 (by kernel_rfl); have ev0 := hf.val 0 26 _ rfl (by kernel_rfl) (by kernel_rfl) (by kernel_rfl); have d1 : v 1 = .int .i64 (n : Nat) := hd 1 (by kernel_rfl); have ev1 := hf.val 1 27 _ d1 (by kernel_rfl) (by kernel_rfl) (by kernel_rfl); clear d1; clear hd hf; intro K hK; go_simp; go_at_call 36; go_split_ands; (with_reducible refine Calls.mono (RPower_f d0 n (by have := HKN.out; omega) (by have := HNL.out; omega)) ?_); rintro e w2 ⟨x, rfl, e2, hx⟩; exact hK.out _ _ e2 hx (FreshIf.no rfl) }) ?_
    refine RgAll.cons (by { (with_reducible refine RgL.mk (by rfl) ?_); intro v a w' hE hd hf; skip; clear hd hf; intro K hK; go_simp; refine hK.out _ _ ((Ext.refl _).alloc _) ⟨_, rfl, hE.size, Bx.new _ _ _ _ _⟩ FreshIf.yes }) ?_
    exact RgAll.nil
  intro v W3 e1 hΦ _
  replace S := S.mono e1
  obtain ⟨s28, a28, n28, c28, v2, h28⟩ := (hΦ 2 (by decide) : IsI (k1 * n + 2) (z1 ^ n) (v 2) W3)
  obtain ⟨g6, v3, q2, b1⟩ := (hΦ 3 (by decide) : IsB W2 (v 3) W3)
  replace S := S.addN (Apart.old hl.out q2) (Nat.le_trans hw q2) b1
  clear b1
  simp only [layL, Act.put, List.setIfInBounds_toArray, List.set_cons_zero, List.set_cons_succ, Nat.reduceAdd]
  rw [v2, v3]
  clear v2 v3
  clear hΦ
  clear hl hw
  clear e1
  obtain ⟨s8, a8, n8, c8, b8, _⟩ := S.at 0 (g6) (IsI 0 0) rfl; have F1 := b8.c0; have F2 := b8.c1; have F3 := b8.f0; have F4 := b8.f1
  refine wpList_step fun K hK => ?_; go_simp; refine hK _ _ ?_; clear hK K
  clear F1 F2 F3 F4 b8
  obtain ⟨W4, hW, S2, G2, _⟩ := S.put 0 (g6) (IsI 0 0) (IsI (k1 * n + 2) (z1 ^ n)) rfl s28 a28 n28 c28 (IsI.gstb _ _) ⟨_, _, _, _, rfl, h28⟩
  rw [← hW]; clear hW S
  have S : St w W4 [(g6, IsI (k1 * n + 2) (z1 ^ n)), (w.heap.size + 1, IsI 0 0), (w.heap.size, IsI k1 z1)] := S2; clear S2 G2
  clear h28
  refine wpList_nil ?_
  go_upto_region 6 with (fail)
  refine wp_region_rgs 3 [some 29, some 30, some 31] [IsI (k1 * n + 2) (z1 ^ n), IsV (.int .i64 (d : Nat)), IsV (.bool true)] [] (by decide) (by kernel_rfl) (by kernel_rfl) (by kernel_rfl) ?_ ?_ ?_ ?_
  · repeat' (first | exact trivial | exact IsV.stb _ | exact IsW.stb _ | exact IsWk.stb _ _ | exact IsI.stb _ _ | exact IsB.stb _ | exact IsR.stb _ _ | exact IsMag.stb _ _ | exact IsPos.stb | apply IsT3.stb | apply IsT2.stb | apply And.intro)
  · exact (fun _ h => by cases h)
  · refine RgAll.cons (by { (with_reducible refine RgL.mk (by rfl) ?_); intro v a w' hE hd hf; have ev0 := hf.lit 6 (.pointer (some ⟨g6, 0, none⟩)) (by kernel_rfl) (by kernel_rfl); obtain ⟨s8, a8, n8, c8, b8, h8⟩ := (S.mono hE).at 0 (g6) (IsI (k1 * n + 2) (z1 ^ n)) rfl; have L0 := b8.c0; have L1 := b8.c1; clear hd hf; intro K hK; go_simp; exact hK.out _ _ (Ext.refl _) h8 (FreshIf.no rfl) }) ?_
    refine RgAll.cons (by { (with_reducible refine RgL.mk (by rfl) ?_); intro v a w' hE hd hf; have d0 : (IsI (k1 * n + 2) (z1 ^ n)) (v 0) w' := hd 0 (by kernel_rfl); have ev0 := hf.val 0 29 _ rfl (by kernel_rfl) (by kernel_rfl) (by kernel_rfl); clear hd hf; intro K hK; go_simp; go_at_call 28; go_split_ands; (with_reducible refine Calls.mono ((by have hh := RBits_f d0 (by have := HKN.out; omega); rw [HD.out] at hh; exact hh)) ?_); rintro e w2 ⟨x, rfl, e2, hx⟩; exact hK.out _ _ e2 hx (FreshIf.no rfl) }) ?_
    refine RgAll.cons (by { (with_reducible refine RgL.mk (by rfl) ?_); intro v a w' hE hd hf; have d0 : v 1 = .int .i64 (d : Nat) := hd 1 (by kernel_rfl); have ev0 := hf.val 1 30 _ d0 (by kernel_rfl) (by kernel_rfl) (by kernel_rfl); clear d0; have hx9 := HD4.out; clear hd hf; intro K hK; go_simp; exact hK.out _ _ (Ext.refl _) rfl (FreshIf.no rfl) }) ?_
    exact RgAll.nil
  intro v W5 e1 hΦ _
  replace S := S.mono e1
  have v2 : v 2 = .bool true := hΦ 2 (by decide)
  simp only [layL, Act.put, List.setIfInBounds_toArray, List.set_cons_zero, List.set_cons_succ, Nat.reduceAdd]
  rw [v2]
  clear v2
  clear hΦ
  clear e1
  refine wpList_nil ?_
  go_upto_region 7 with (fail)
  refine wp_region_rgs 1 [some 32] [IsI 0 0] [] (by decide) (by kernel_rfl) (by kernel_rfl) (by kernel_rfl) ?_ ?_ ?_ ?_
  · repeat' (first | exact trivial | exact IsV.stb _ | exact IsW.stb _ | exact IsWk.stb _ _ | exact IsI.stb _ _ | exact IsB.stb _ | exact IsR.stb _ _ | exact IsMag.stb _ _ | exact IsPos.stb | apply IsT3.stb | apply IsT2.stb | apply And.intro)
  · exact (fun _ h => by cases h)
  · refine RgAll.cons (by { (with_reducible refine RgL.mk (by rfl) ?_); intro v a w' hE hd hf; skip; clear hd hf; intro K hK; go_simp; exact hK.out _ _ (Ext.refl _) (IsI.nil _ _) (FreshIf.no rfl) }) ?_
    exact RgAll.nil
  intro v W6 e1 hΦ _
  replace S := S.mono e1
  obtain ⟨s32, a32, n32, c32, v0, h32⟩ := (hΦ 0 (by decide) : IsI 0 0 (v 0) W6)
  simp only [layL, Act.put, List.setIfInBounds_toArray, List.set_cons_zero, List.set_cons_succ]
  rw [v0]
  clear v0
  clear hΦ
  clear e1
  obtain ⟨s8, a8, n8, c8, b8, _⟩ := S.at 1 (w.heap.size + 1) (IsI 0 0) rfl; have F1 := b8.c0; have F2 := b8.c1; have F3 := b8.f0; have F4 := b8.f1
  refine wpList_step fun K hK => ?_; go_simp; refine hK _ _ ?_; clear hK K
  clear F1 F2 F3 F4 b8
  obtain ⟨W7, hW, S2, G2, _⟩ := S.put 1 (w.heap.size + 1) (IsI 0 0) (IsI 0 0) rfl s32 a32 n32 c32 (IsI.gstb _ _) ⟨_, _, _, _, rfl, h32⟩
  rw [← hW]; clear hW S
  have S : St w W7 [(g6, IsI (k1 * n + 2) (z1 ^ n)), (w.heap.size + 1, IsI 0 0), (w.heap.size, IsI k1 z1)] := S2; clear S2 G2
  clear h32
  refine wpList_step fun K hK => ?_; go_simp; refine hK _ _ ?_; clear hK K
  refine wpList_nil ?_
  go_wp2_with fail
  obtain ⟨rs0, ra0, rn0, rc0, rb0, rh0⟩ := S.at 1 (w.heap.size + 1) (IsI 0 0) rfl; have T0 := rb0.c0; have U0 := rb0.c1
  exact bodyPost_ret (v := .tuple #[.agg #[.bool rs0, .slice ra0 rn0 rc0], .int .i64 2]) (by simp [results, Tryz.results34, go_sem, T0, U0]) rfl (⟨_, rfl, S.ext, _, _, rfl, rh0, rfl⟩)
set_option maxRecDepth 100000 in
set_option maxHeartbeats 4000000 in
theorem RPow2_c {k1 : Nat} {z1 : Int} {x : Value} {w : World} (hx : IsI k1 z1 x w) (l1 : k1 ≤ 1024) (n : Nat) (h4 : n ≤ 4096) (b p : Nat) (hb : bitLen z1.natAbs = b) (hp : (b - 1) * n = p) (h1b : 1 < b) (hpb : p < 4096) (d : Nat) (hd : bitLen (z1 ^ n).natAbs = d) (hds : d ≤ 4096) :
    Calls Tryz.prog 34 #[x, .int .i64 (n : Nat)] w (Ret w (IsT2 (IsI 128 (z1 ^ n)) (IsV (.int .i64 0)))) := by
  have HB := hid hb
  have HN0 := hid (show decide (((n : Nat) : Int) < 0) = false by simp)
  have HN4 := hid (show decide ((4096 : Int) < ((n : Nat) : Int)) = false by simp; omega)
  have HNL := hid h4
  have hbl : b ≤ 32 * k1 := by rw [← hb]; exact bitLen_le _ _ hx.size
  have hpl : p ≤ 134217728 := by
    rw [← hp]
    exact Nat.le_trans (Nat.mul_le_mul (show b - 1 ≤ 32768 by omega) h4) (by decide)
  have HB1 := hid (show decide ((1 : Int) < ((b : Nat) : Int)) = true by simp; omega)
  have HW1 := hid (show IntKind.i64.wrap ((b : Int) - 1) = (b : Int) - 1 by simp only [IntKind.wrap_i64]; omega)
  have HPR := hid (show ((b : Int) - 1) * (n : Int) = (p : Int) by rw [← hp, Int.natCast_mul, Int.natCast_sub (by omega)]; rfl)
  have HPW := hid (show IntKind.i64.wrap (p : Int) = (p : Int) by simp only [IntKind.wrap_i64]; omega)
  have HPC := hid (show decide ((4096 : Int) ≤ ((p : Nat) : Int)) = false by simp; omega)
  have HD := hid hd
  have HKN := hid (show k1 * n ≤ 4194304 from Nat.le_trans (Nat.mul_le_mul l1 h4) (by decide))
  have HD4 := hid (show decide ((4096 : Int) < ((d : Nat) : Int)) = false by simp; omega)
  have HS := hid (show (z1 ^ n).natAbs < 4294967296 ^ 128 from lt_of_bitLen _ 128 (by omega))
  clear h1b hpb hds
  clear hb hp hbl hpl h4 hd
  obtain ⟨s1, a1, n1, c1, rfl, h1⟩ := hx
  obtain ⟨W, hW, S⟩ : ∃ W, W = (w.alloc (.cells #[.bool s1, .slice a1 n1 c1] 27)).alloc (.cells #[.bool false, .slice none 0 0] 27) ∧ St w W [(w.heap.size + 1, IsI 0 0), (w.heap.size, IsI k1 z1)] := ⟨_, rfl, (((St.start w).new' (w.heap.size) (by simp) s1 a1 n1 c1 27 (IsI k1 z1) (IsI.gstb _ _) ⟨_, _, _, _, rfl, h1⟩).new' (w.heap.size + 1) (by simp) false none 0 0 27 (IsI 0 0) (IsI.gstb _ _) (IsI.nil _ _))⟩
  clear h1
  go_enter Tryz.func34, Tryz.ntmps34
  go_upto_region 1 with (fail)
  rw [← hW]
  clear hW
  refine wp_region_rgs 6 [some 7, some 8, some 9, some 10, some 11, some 12] [IsV (.int .i64 (n : Nat)), IsV (.bool false), IsV (.bool false), IsV (.int .i64 (n : Nat)), IsV (.bool false), IsV (.bool false)] [] (by decide) (by kernel_rfl) (by kernel_rfl) (by kernel_rfl) ?_ ?_ ?_ ?_
  · repeat' (first | exact trivial | exact IsV.stb _ | exact IsW.stb _ | exact IsWk.stb _ _ | exact IsI.stb _ _ | exact IsB.stb _ | exact IsR.stb _ _ | exact IsMag.stb _ _ | exact IsPos.stb | apply IsT3.stb | apply IsT2.stb | apply And.intro)
  · exact (fun _ h => by cases h)
  · refine RgAll.cons (by { (with_reducible refine RgL.mk (by rfl) ?_); intro v a w' hE hd hf; have ev0 := hf.lit 1 (.int .i64 (n : Nat)) (by kernel_rfl) (by kernel_rfl); clear hd hf; intro K hK; go_simp; exact hK.out _ _ (Ext.refl _) rfl (FreshIf.no rfl) }) ?_
    refine RgAll.cons (by { (with_reducible refine RgL.mk (by rfl) ?_); intro v a w' hE hd hf; have d0 : v 0 = .int .i64 (n : Nat) := hd 0 (by kernel_rfl); have ev0 := hf.val 0 7 _ d0 (by kernel_rfl) (by kernel_rfl) (by kernel_rfl); clear d0; have hx9 := HN0.out; clear hd hf; intro K hK; go_simp; exact hK.out _ _ (Ext.refl _) rfl (FreshIf.no rfl) }) ?_
    refine RgAll.cons (by { (with_reducible refine RgL.mk (by rfl) ?_); intro v a w' hE hd hf; have d0 : v 1 = .bool false := hd 1 (by kernel_rfl); have ev0 := hf.val 1 8 _ d0 (by kernel_rfl) (by kernel_rfl) (by kernel_rfl); clear d0; clear hd hf; intro K hK; go_simp; exact hK.out _ _ (Ext.refl _) rfl (FreshIf.no rfl) }) ?_
    refine RgAll.cons (by { (with_reducible refine RgL.mkG 2 9 false (by rfl) (by kernel_rfl) (by kernel_rfl) (by kernel_rfl) (by kernel_rfl) (by kernel_rfl) ?_ ?_); (focus (intro _ _ h; exact h)); intro v a w' hE hd hf; have ev0 := hf.lit 1 (.int .i64 (n : Nat)) (by kernel_rfl) (by kernel_rfl); clear hd hf; intro K hK; go_simp; exact hK.out _ _ (Ext.refl _) rfl (FreshIf.no rfl) }) ?_
    refine RgAll.cons (by { (with_reducible refine RgL.mkG 2 9 false (by rfl) (by kernel_rfl) (by kernel_rfl) (by kernel_rfl) (by kernel_rfl) (by kernel_rfl) ?_ ?_); (focus (intro _ _ h; exact h)); intro v a w' hE hd hf; have d0 : v 3 = .int .i64 (n : Nat) := hd 3 (by kernel_rfl); have ev0 := hf.val 3 10 _ d0 (by kernel_rfl) (by kernel_rfl) (by kernel_rfl); clear d0; have hx9 := HN4.out; clear hd hf; intro K hK; go_simp; exact hK.out _ _ (Ext.refl _) rfl (FreshIf.no rfl) }) ?_
    refine RgAll.cons (by { (with_reducible refine RgL.mk (by rfl) ?_); intro v a w' hE hd hf; have d0 : v 2 = .bool false := hd 2 (by kernel_rfl); have ev0 := hf.val 2 9 _ d0 (by kernel_rfl) (by kernel_rfl) (by kernel_rfl); clear d0; have d1 : v 4 = .bool false := hd 4 (by kernel_rfl); have ev1 := hf.val 4 11 _ d1 (by kernel_rfl) (by kernel_rfl) (by kernel_rfl); clear d1; clear hd hf; intro K hK; go_simp; exact hK.out _ _ (Ext.refl _) rfl (FreshIf.no rfl) }) ?_
    exact RgAll.nil
  intro v W1 e1 hΦ _
  replace S := S.mono e1
  have v5 : v 5 = .bool false := hΦ 5 (by decide)
  simp only [layL, Act.put, List.setIfInBounds_toArray, List.set_cons_zero, List.set_cons_succ, Nat.reduceAdd]
  rw [v5]
  clear v5
  clear hΦ
  clear e1
  refine wpList_nil ?_
  go_upto_region 3 with (fail)
  refine wp_region_rgs 11 [some 14, some 15, some 16, some 17, some 18, some 19, some 20, some 21, some 22, some 23, some 24] [IsI k1 z1, IsV (.int .i64 (b : Nat)), IsV (.bool true), IsV (.bool true), IsI k1 z1, IsV (.int .i64 (b : Nat)), IsV (.int .i64 ((b : Nat) - 1)), IsV (.int .i64 (n : Nat)), IsV (.int .i64 (p : Nat)), IsV (.bool false), IsV (.bool false)] [] (by decide) (by kernel_rfl) (by kernel_rfl) (by kernel_rfl) ?_ ?_ ?_ ?_
  · repeat' (first | exact trivial | exact IsV.stb _ | exact IsW.stb _ | exact IsWk.stb _ _ | exact IsI.stb _ _ | exact IsB.stb _ | exact IsR.stb _ _ | exact IsMag.stb _ _ | exact IsPos.stb | apply IsT3.stb | apply IsT2.stb | apply And.intro)
  · exact (fun _ h => by cases h)
  · refine RgAll.cons (by { (with_reducible refine RgL.mk (by rfl) ?_); intro v a w' hE hd hf; have ev0 := hf.lit 2 (.pointer (some ⟨w.heap.size, 0, none⟩)) (by kernel_rfl) (by kernel_rfl); obtain ⟨s8, a8, n8, c8, b8, h8⟩ := (S.mono hE).at 1 (w.heap.size) (IsI k1 z1) rfl; have L0 := b8.c0; have L1 := b8.c1; clear hd hf; intro K hK; go_simp; exact hK.out _ _ (Ext.refl _) h8 (FreshIf.no rfl) }) ?_
    refine RgAll.cons (by { (with_reducible refine RgL.mk (by rfl) ?_); intro v a w' hE hd hf; have d0 : (IsI k1 z1) (v 0) w' := hd 0 (by kernel_rfl); have ev0 := hf.val 0 14 _ rfl (by kernel_rfl) (by kernel_rfl) (by kernel_rfl); clear hd hf; intro K hK; go_simp; go_at_call 28; go_split_ands; (with_reducible refine Calls.mono ((by have hh := RBits_f d0 (by omega); rw [HB.out] at hh; exact hh)) ?_); rintro e w2 ⟨x, rfl, e2, hx⟩; exact hK.out _ _ e2 hx (FreshIf.no rfl) }) ?_
    refine RgAll.cons (by { (with_reducible refine RgL.mk (by rfl) ?_); intro v a w' hE hd hf; have d0 : v 1 = .int .i64 (b : Nat) := hd 1 (by kernel_rfl); have ev0 := hf.val 1 15 _ d0 (by kernel_rfl) (by kernel_rfl) (by kernel_rfl); clear d0; have hx9 := HB1.out; clear hd hf; intro K hK; go_simp; exact hK.out _ _ (Ext.refl _) rfl (FreshIf.no rfl) }) ?_
    refine RgAll.cons (by { (with_reducible refine RgL.mk (by rfl) ?_); intro v a w' hE hd hf; have d0 : v 2 = .bool true := hd 2 (by kernel_rfl); have ev0 := hf.val 2 16 _ d0 (by kernel_rfl) (by kernel_rfl) (by kernel_rfl); clear d0; clear hd hf; intro K hK; go_simp; exact hK.out _ _ (Ext.refl _) rfl (FreshIf.no rfl) }) ?_
    refine RgAll.cons (by { (with_reducible refine RgL.mkG 3 17 true (by rfl) (by kernel_rfl) (by kernel_rfl) (by kernel_rfl) (by kernel_rfl) (by kernel_rfl) ?_ ?_); (focus (intro _ _ h; exact h)); intro v a w' hE hd hf; have ev0 := hf.lit 2 (.pointer (some ⟨w.heap.size, 0, none⟩)) (by kernel_rfl) (by kernel_rfl); obtain ⟨s8, a8, n8, c8, b8, h8⟩ := (S.mono hE).at 1 (w.heap.size) (IsI k1 z1) rfl; have L0 := b8.c0; have L1 := b8.c1; clear hd hf; intro K hK; go_simp; exact hK.out _ _ (Ext.refl _) h8 (FreshIf.no rfl) }) ?_
    refine RgAll.cons (by { (with_reducible refine RgL.mkG 3 17 true (by rfl) (by kernel_rfl) (by kernel_rfl) (by kernel_rfl) (by kernel_rfl) (by kernel_rfl) ?_ ?_); (focus (intro _ _ h; exact h)); intro v a w' hE hd hf; have d0 : (IsI k1 z1) (v 4) w' := hd 4 (by kernel_rfl); have ev0 := hf.val 4 18 _ rfl (by kernel_rfl) (by kernel_rfl) (by kernel_rfl); clear hd hf; intro K hK; go_simp; go_at_call 28; go_split_ands; (with_reducible refine Calls.mono ((by have hh := RBits_f d0 (by omega); rw [HB.out] at hh; exact hh)) ?_); rintro e w2 ⟨x, rfl, e2, hx⟩; exact hK.out _ _ e2 hx (FreshIf.no rfl) }) ?_
    refine RgAll.cons (by { (with_reducible refine RgL.mkG 3 17 true (by rfl) (by kernel_rfl) (by kernel_rfl) (by kernel_rfl) (by kernel_rfl) (by kernel_rfl) ?_ ?_); (focus (intro _ _ h; exact h)); intro v a w' hE hd hf; have d0 : v 5 = .int .i64 (b : Nat) := hd 5 (by kernel_rfl); have ev0 := hf.val 5 19 _ d0 (by kernel_rfl) (by kernel_rfl) (by kernel_rfl); clear d0; have hx9 := HW1.out; clear hd hf; intro K hK; go_simp; exact hK.out _ _ (Ext.refl _) rfl (FreshIf.no rfl) }) ?_
    refine RgAll.cons (by { (with_reducible refine RgL.mkG 3 17 true (by rfl) (by kernel_rfl) (by kernel_rfl) (by kernel_rfl) (by kernel_rfl) (by kernel_rfl) ?_ ?_); (focus (intro _ _ h; exact h)); intro v a w' hE hd hf; have ev0 := hf.lit 1 (.int .i64 (n : Nat)) (by kernel_rfl) (by kernel_rfl); clear hd hf; intro K hK; go_simp; exact hK.out _ _ (Ext.refl _) rfl (FreshIf.no rfl) }) ?_
    refine RgAll.cons (by { (with_reducible refine RgL.mkG 3 17 true (by rfl) (by kernel_rfl) (by kernel_rfl) (by kernel_rfl) (by kernel_rfl) (by kernel_rfl) ?_ ?_); (focus (intro _ _ h; exact h)); intro v a w' hE hd hf; have d0 : v 6 = .int .i64 ((b : Nat) - 1) := hd 6 (by kernel_rfl); have ev0 := hf.val 6 20 _ d0 (by kernel_rfl) (by kernel_rfl) (by kernel_rfl); clear d0; have d1 : v 7 = .int .i64 (n : Nat) := hd 7 (by kernel_rfl); have ev1 := hf.val 7 21 _ d1 (by kernel_rfl) (by kernel_rfl) (by kernel_rfl); clear d1; have hx9 := HPR.out; have hx8 := HPW.out; clear hd hf; intro K hK; go_simp; exact hK.out _ _ (Ext.refl _) rfl (FreshIf.no rfl) }) ?_
    refine RgAll.cons (by { (with_reducible refine RgL.mkG 3 17 true (by rfl) (by kernel_rfl) (by kernel_rfl) (by kernel_rfl) (by kernel_rfl) (by kernel_rfl) ?_ ?_); (focus (intro _ _ h; exact h)); intro v a w' hE hd hf; have d0 : v 8 = .int .i64 (p : Nat) := hd 8 (by kernel_rfl); have ev0 := hf.val 8 22 _ d0 (by kernel_rfl) (by kernel_rfl) (by kernel_rfl); clear d0; have hx9 := HPC.out; clear hd hf; intro K hK; go_simp; exact hK.out _ _ (Ext.refl _) rfl (FreshIf.no rfl) }) ?_
    refine RgAll.cons (by { (with_reducible refine RgL.mk (by rfl) ?_); intro v a w' hE hd hf; have d0 : v 3 = .bool true := hd 3 (by kernel_rfl); have ev0 := hf.val 3 17 _ d0 (by kernel_rfl) (by kernel_rfl) (by kernel_rfl); clear d0; have d1 : v 9 = .bool false := hd 9 (by kernel_rfl); have ev1 := hf.val 9 23 _ d1 (by kernel_rfl) (by kernel_rfl) (by kernel_rfl); clear d1; clear hd hf; intro K hK; go_simp; exact hK.out _ _ (Ext.refl _) rfl (FreshIf.no rfl) }) ?_
    exact RgAll.nil
  intro v W2 e1 hΦ _
  replace S := S.mono e1
  have v10 : v 10 = .bool false := hΦ 10 (by decide)
  simp only [layL, Act.put, List.setIfInBounds_toArray, List.set_cons_zero, List.set_cons_succ, Nat.reduceAdd]
  rw [v10]
  clear v10
  clear hΦ
  clear e1
  refine wpList_nil ?_
  go_upto_region 5 with (fail)
  have hl := hid S.lt; have hw := S.ext.size
  refine wp_region_rgs 4 [some 26, some 27, some 28, some 6] [IsI k1 z1, IsV (.int .i64 (n : Nat)), IsI (k1 * n + 2) (z1 ^ n), IsB W2] [3] (by decide) (by kernel_rfl) (by kernel_rfl) (by kernel_rfl) ?_ ?_ ?_ ?_
  · repeat' (first | exact trivial | exact IsV.stb _ | exact IsW.stb _ | exact IsWk.stb _ _ | exact IsI.stb _ _ | exact IsB.stb _ | exact IsR.stb _ _ | exact IsMag.stb _ _ | exact IsPos.stb | apply IsT3.stb | apply IsT2.stb | apply And.intro)
  · intro i hi; simp only [List.mem_cons, List.not_mem_nil, or_false] at hi; subst hi; exact IsB.box _
  · refine RgAll.cons (by { (with_reducible refine RgL.mk (by rfl) ?_); intro v a w' hE hd hf; have ev0 := hf.lit 2 (.pointer (some ⟨w.heap.size, 0, none⟩)) (by kernel_rfl) (by kernel_rfl); obtain ⟨s8, a8, n8, c8, b8, h8⟩ := (S.mono hE).at 1 (w.heap.size) (IsI k1 z1) rfl; have L0 := b8.c0; have L1 := b8.c1; clear hd hf; intro K hK; go_simp; exact hK.out _ _ (Ext.refl _) h8 (FreshIf.no rfl) }) ?_
    refine RgAll.cons (by { (with_reducible refine RgL.mk (by rfl) ?_); intro v a w' hE hd hf; have ev0 := hf.lit 1 (.int .i64 (n : Nat)) (by kernel_rfl) (by kernel_rfl); clear hd hf; intro K hK; go_simp; exact hK.out _ _ (Ext.refl _) rfl (FreshIf.no rfl) }) ?_
    refine RgAll.cons (by { (with_reducible refine RgL.mk (by rfl) ?_); intro v a w' hE hd hf; have d0 : (IsI k1 z1) (v 0) w' := hd 0 (by kernel_rfl); have ev0 := hf.val 0 26 _ rfl (by kernel_rfl) (by kernel_rfl) (by kernel_rfl); have d1 : v 1 = .int .i64 (n : Nat) := hd 1 (by kernel_rfl); have ev1 := hf.val 1 27 _ d1 (by kernel_rfl) (by kernel_rfl) (by kernel_rfl); clear d1; clear hd hf; intro K hK; go_simp; go_at_call 36; go_split_ands; (with_reducible refine Calls.mono (RPower_f d0 n (by have := HKN.out; omega) (by have := HNL.out; omega)) ?_); rintro e w2 ⟨x, rfl, e2, hx⟩; exact hK.out _ _ e2 hx (FreshIf.no rfl) }) ?_
    refine RgAll.cons (by { (with_reducible refine RgL.mk (by rfl) ?_); intro v a w' hE hd hf; skip; clear hd hf; intro K hK; go_simp; refine hK.out _ _ ((Ext.refl _).alloc _) ⟨_, rfl, hE.size, Bx.new _ _ _ _ _⟩ FreshIf.yes }) ?_
    exact RgAll.nil
  intro v W3 e1 hΦ _
  replace S := S.mono e1
  obtain ⟨s28, a28, n28, c28, v2, h28⟩ := (hΦ 2 (by decide) : IsI (k1 * n + 2) (z1 ^ n) (v 2) W3)
  obtain ⟨g6, v3, q2, b1⟩ := (hΦ 3 (by decide) : IsB W2 (v 3) W3)
  replace S := S.addN (Apart.old hl.out q2) (Nat.le_trans hw q2) b1
  clear b1
  simp only [layL, Act.put, List.setIfInBounds_toArray, List.set_cons_zero, List.set_cons_succ, Nat.reduceAdd]
  rw [v2, v3]
  clear v2 v3
  clear hΦ
  clear hl hw
  clear e1
  obtain ⟨s8, a8, n8, c8, b8, _⟩ := S.at 0 (g6) (IsI 0 0) rfl; have F1 := b8.c0; have F2 := b8.c1; have F3 := b8.f0; have F4 := b8.f1
  refine wpList_step fun K hK => ?_; go_simp; refine hK _ _ ?_; clear hK K
  clear F1 F2 F3 F4 b8
  obtain ⟨W4, hW, S2, G2, _⟩ := S.put 0 (g6) (IsI 0 0) (IsI (k1 * n + 2) (z1 ^ n)) rfl s28 a28 n28 c28 (IsI.gstb _ _) ⟨_, _, _, _, rfl, h28⟩
  rw [← hW]; clear hW S
  have S : St w W4 [(g6, IsI (k1 * n + 2) (z1 ^ n)), (w.heap.size + 1, IsI 0 0), (w.heap.size, IsI k1 z1)] := S2; clear S2 G2
  clear h28
  refine wpList_nil ?_
  go_upto_region 6 with (fail)
  refine wp_region_rgs 3 [some 29, some 30, some 31] [IsI (k1 * n + 2) (z1 ^ n), IsV (.int .i64 (d : Nat)), IsV (.bool false)] [] (by decide) (by kernel_rfl) (by kernel_rfl) (by kernel_rfl) ?_ ?_ ?_ ?_
  · repeat' (first | exact trivial | exact IsV.stb _ | exact IsW.stb _ | exact IsWk.stb _ _ | exact IsI.stb _ _ | exact IsB.stb _ | exact IsR.stb _ _ | exact IsMag.stb _ _ | exact IsPos.stb | apply IsT3.stb | apply IsT2.stb | apply And.intro)
  · exact (fun _ h => by cases h)
  · refine RgAll.cons (by { (with_reducible refine RgL.mk (by rfl) ?_); intro v a w' hE hd hf; have ev0 := hf.lit 6 (.pointer (some ⟨g6, 0, none⟩)) (by kernel_rfl) (by kernel_rfl); obtain ⟨s8, a8, n8, c8, b8, h8⟩ := (S.mono hE).at 0 (g6) (IsI (k1 * n + 2) (z1 ^ n)) rfl; have L0 := b8.c0; have L1 := b8.c1; clear hd hf; intro K hK; go_simp; exact hK.out _ _ (Ext.refl _) h8 (FreshIf.no rfl) }) ?_
    refine RgAll.cons (by { (with_reducible refine RgL.mk (by rfl) ?_); intro v a w' hE hd hf; have d0 : (IsI (k1 * n + 2) (z1 ^ n)) (v 0) w' := hd 0 (by kernel_rfl); have ev0 := hf.val 0 29 _ rfl (by kernel_rfl) (by kernel_rfl) (by kernel_rfl); clear hd hf; intro K hK; go_simp; go_at_call 28; go_split_ands; (with_reducible refine Calls.mono ((by have hh := RBits_f d0 (by have := HKN.out; omega); rw [HD.out] at hh; exact hh)) ?_); rintro e w2 ⟨x, rfl, e2, hx⟩; exact hK.out _ _ e2 hx (FreshIf.no rfl) }) ?_
    refine RgAll.cons (by { (with_reducible refine RgL.mk (by rfl) ?_); intro v a w' hE hd hf; have d0 : v 1 = .int .i64 (d : Nat) := hd 1 (by kernel_rfl); have ev0 := hf.val 1 30 _ d0 (by kernel_rfl) (by kernel_rfl) (by kernel_rfl); clear d0; have hx9 := HD4.out; clear hd hf; intro K hK; go_simp; exact hK.out _ _ (Ext.refl _) rfl (FreshIf.no rfl) }) ?_
    exact RgAll.nil
  intro v W5 e1 hΦ _
  replace S := S.mono e1
  have v2 : v 2 = .bool false := hΦ 2 (by decide)
  simp only [layL, Act.put, List.setIfInBounds_toArray, List.set_cons_zero, List.set_cons_succ, Nat.reduceAdd]
  rw [v2]
  clear v2
  clear hΦ
  clear e1
  refine wpList_nil ?_
  go_upto_region 8 with (fail)
  refine wp_region_rgs 1 [some 33] [IsI (k1 * n + 2) (z1 ^ n)] [] (by decide) (by kernel_rfl) (by kernel_rfl) (by kernel_rfl) ?_ ?_ ?_ ?_
  · repeat' (first | exact trivial | exact IsV.stb _ | exact IsW.stb _ | exact IsWk.stb _ _ | exact IsI.stb _ _ | exact IsB.stb _ | exact IsR.stb _ _ | exact IsMag.stb _ _ | exact IsPos.stb | apply IsT3.stb | apply IsT2.stb | apply And.intro)
  · exact (fun _ h => by cases h)
  · refine RgAll.cons (by { (with_reducible refine RgL.mk (by rfl) ?_); intro v a w' hE hd hf; have ev0 := hf.lit 6 (.pointer (some ⟨g6, 0, none⟩)) (by kernel_rfl) (by kernel_rfl); obtain ⟨s8, a8, n8, c8, b8, h8⟩ := (S.mono hE).at 0 (g6) (IsI (k1 * n + 2) (z1 ^ n)) rfl; have L0 := b8.c0; have L1 := b8.c1; clear hd hf; intro K hK; go_simp; exact hK.out _ _ (Ext.refl _) h8 (FreshIf.no rfl) }) ?_
    exact RgAll.nil
  intro v W6 e1 hΦ _
  replace S := S.mono e1
  obtain ⟨s33, a33, n33, c33, v0, h33⟩ := (hΦ 0 (by decide) : IsI (k1 * n + 2) (z1 ^ n) (v 0) W6)
  simp only [layL, Act.put, List.setIfInBounds_toArray, List.set_cons_zero, List.set_cons_succ]
  rw [v0]
  clear v0
  clear hΦ
  clear e1
  obtain ⟨s8, a8, n8, c8, b8, _⟩ := S.at 1 (w.heap.size + 1) (IsI 0 0) rfl; have F1 := b8.c0; have F2 := b8.c1; have F3 := b8.f0; have F4 := b8.f1
  refine wpList_step fun K hK => ?_; go_simp; refine hK _ _ ?_; clear hK K
  clear F1 F2 F3 F4 b8
  obtain ⟨W7, hW, S2, G2, _⟩ := S.put 1 (w.heap.size + 1) (IsI 0 0) (IsI (k1 * n + 2) (z1 ^ n)) rfl s33 a33 n33 c33 (IsI.gstb _ _) ⟨_, _, _, _, rfl, h33⟩
  rw [← hW]; clear hW S
  have S : St w W7 [(g6, IsI (k1 * n + 2) (z1 ^ n)), (w.heap.size + 1, IsI (k1 * n + 2) (z1 ^ n)), (w.heap.size, IsI k1 z1)] := S2; clear S2 G2
  clear h33
  refine wpList_step fun K hK => ?_; go_simp; refine hK _ _ ?_; clear hK K
  refine wpList_nil ?_
  go_wp2_with fail
  obtain ⟨rs0, ra0, rn0, rc0, rb0, rh0⟩ := S.at 1 (w.heap.size + 1) (IsI (k1 * n + 2) (z1 ^ n)) rfl; have T0 := rb0.c0; have U0 := rb0.c1
  exact bodyPost_ret (v := .tuple #[.agg #[.bool rs0, .slice ra0 rn0 rc0], .int .i64 0]) (by simp [results, Tryz.results34, go_sem, T0, U0]) rfl (⟨_, rfl, S.ext, _, _, rfl, IsI.tight rh0 HS.out, rfl⟩)
set_option maxRecDepth 100000 in
set_option maxHeartbeats 4000000 in
theorem RPow2h_c {k1 : Nat} {z1 : Int} {x : Value} {w : World} (hx : IsI k1 z1 x w) (l1 : k1 ≤ 1024) (n : Nat) (h4 : n ≤ 4096) (b p : Nat) (hb : bitLen z1.natAbs = b) (hp : (b - 1) * n = p) (h1b : 1 < b) (hpb : p < 4096) (d : Nat) (hd : bitLen (z1 ^ n).natAbs = d) (hds : 4096 < d) :
    Calls Tryz.prog 34 #[x, .int .i64 (n : Nat)] w (Ret w (IsT2 (IsI 0 0) (IsV (.int .i64 2)))) := by
  have HB := hid hb
  have HN0 := hid (show decide (((n : Nat) : Int) < 0) = false by simp)
  have HN4 := hid (show decide ((4096 : Int) < ((n : Nat) : Int)) = false by simp; omega)
  have HNL := hid h4
  have hbl : b ≤ 32 * k1 := by rw [← hb]; exact bitLen_le _ _ hx.size
  have hpl : p ≤ 134217728 := by
    rw [← hp]
    exact Nat.le_trans (Nat.mul_le_mul (show b - 1 ≤ 32768 by omega) h4) (by decide)
  have HB1 := hid (show decide ((1 : Int) < ((b : Nat) : Int)) = true by simp; omega)
  have HW1 := hid (show IntKind.i64.wrap ((b : Int) - 1) = (b : Int) - 1 by simp only [IntKind.wrap_i64]; omega)
  have HPR := hid (show ((b : Int) - 1) * (n : Int) = (p : Int) by rw [← hp, Int.natCast_mul, Int.natCast_sub (by omega)]; rfl)
  have HPW := hid (show IntKind.i64.wrap (p : Int) = (p : Int) by simp only [IntKind.wrap_i64]; omega)
  have HPC := hid (show decide ((4096 : Int) ≤ ((p : Nat) : Int)) = false by simp; omega)
  have HD := hid hd
  have HKN := hid (show k1 * n ≤ 4194304 from Nat.le_trans (Nat.mul_le_mul l1 h4) (by decide))
  have HD4 := hid (show decide ((4096 : Int) < ((d : Nat) : Int)) = true by simp; omega)
  clear h1b hpb hds
  clear hb hp hbl hpl h4 hd
  obtain ⟨s1, a1, n1, c1, rfl, h1⟩ := hx
  obtain ⟨W, hW, S⟩ : ∃ W, W = (w.alloc (.cells #[.bool s1, .slice a1 n1 c1] 27)).alloc (.cells #[.bool false, .slice none 0 0] 27) ∧ St w W [(w.heap.size + 1, IsI 0 0), (w.heap.size, IsI k1 z1)] := ⟨_, rfl, (((St.start w).new' (w.heap.size) (by simp) s1 a1 n1 c1 27 (IsI k1 z1) (IsI.gstb _ _) ⟨_, _, _, _, rfl, h1⟩).new' (w.heap.size + 1) (by simp) false none 0 0 27 (IsI 0 0) (IsI.gstb _ _) (IsI.nil _ _))⟩
  clear h1
  go_enter Tryz.func34, Tryz.ntmps34
  go_upto_region 1 with (fail)
  rw [← hW]
  clear hW
  refine wp_region_rgs 6 [some 7, some 8, some 9, some 10, some 11, some 12] [IsV (.int .i64 (n : Nat)), IsV (.bool false), IsV (.bool false), IsV (.int .i64 (n : Nat)), IsV (.bool false), IsV (.bool false)] [] (by decide) (by kernel_rfl) (by kernel_rfl) (by kernel_rfl) ?_ ?_ ?_ ?_
  · repeat' (first | exact trivial | exact IsV.stb _ | exact IsW.stb _ | exact IsWk.stb _ _ | exact IsI.stb _ _ | exact IsB.stb _ | exact IsR.stb _ _ | exact IsMag.stb _ _ | exact IsPos.stb | apply IsT3.stb | apply IsT2.stb | apply And.intro)
  · exact (fun _ h => by cases h)
  · refine RgAll.cons (by { (with_reducible refine RgL.mk (by rfl) ?_); intro v a w' hE hd hf; have ev0 := hf.lit 1 (.int .i64 (n : Nat)) (by kernel_rfl) (by kernel_rfl); clear hd hf; intro K hK; go_simp; exact hK.out _ _ (Ext.refl _) rfl (FreshIf.no rfl) }) ?_
    refine RgAll.cons (by { (with_reducible refine RgL.mk (by rfl) ?_); intro v a w' hE hd hf; have d0 : v 0 = .int .i64 (n : Nat) := hd 0 (by kernel_rfl); have ev0 := hf.val 0 7 _ d0 (by kernel_rfl) (by kernel_rfl) (by kernel_rfl); clear d0; have hx9 := HN0.out; clear hd hf; intro K hK; go_simp; exact hK.out _ _ (Ext.refl _) rfl (FreshIf.no rfl) }) ?_
    refine RgAll.cons (by { (with_reducible refine RgL.mk (by rfl) ?_); intro v a w' hE hd hf; have d0 : v 1 = .bool false := hd 1 (by kernel_rfl); have ev0 := hf.val 1 8 _ d0 (by kernel_rfl) (by kernel_rfl) (by kernel_rfl); clear d0; clear hd hf; intro K hK; go_simp; exact hK.out _ _ (Ext.refl _) rfl (FreshIf.no rfl) }) ?_
    refine RgAll.cons (by { (with_reducible refine RgL.mkG 2 9 false (by rfl) (by kernel_rfl) (by kernel_rfl) (by kernel_rfl) (by kernel_rfl) (by kernel_rfl) ?_ ?_); (focus (intro _ _ h; exact h)); intro v a w' hE hd hf; have ev0 := hf.lit 1 (.int .i64 (n : Nat)) (by kernel_rfl) (by kernel_rfl); clear hd hf; intro K hK; go_simp; exact hK.out _ _ (Ext.refl _) rfl (FreshIf.no rfl) }) ?_
    refine RgAll.cons (by { (with_reducible refine RgL.mkG 2 9 false (by rfl) (by kernel_rfl) (by kernel_rfl) (by kernel_rfl) (by kernel_rfl) (by kernel_rfl) ?_ ?_); (focus (intro _ _ h; exact h)); intro v a w' hE hd hf; have d0 : v 3 = .int .i64 (n : Nat) := hd 3 (by kernel_rfl); have ev0 := hf.val 3 10 _ d0 (by kernel_rfl) (by kernel_rfl) (by kernel_rfl); clear d0; have hx9 := HN4.out; clear hd hf; intro K hK; go_simp; exact hK.out _ _ (Ext.refl _) rfl (FreshIf.no rfl) }) ?_
    refine RgAll.cons (by { (with_reducible refine RgL.mk (by rfl) ?_); intro v a w' hE hd hf; have d0 : v 2 = .bool false := hd 2 (by kernel_rfl); have ev0 := hf.val 2 9 _ d0 (by kernel_rfl) (by kernel_rfl) (by kernel_rfl); clear d0; have d1 : v 4 = .bool false := hd 4 (by kernel_rfl); have ev1 := hf.val 4 11 _ d1 (by kernel_rfl) (by kernel_rfl) (by kernel_rfl); clear d1; clear hd hf; intro K hK; go_simp; exact hK.out _ _ (Ext.refl _) rfl (FreshIf.no rfl) }) ?_
    exact RgAll.nil
  intro v W1 e1 hΦ _
  replace S := S.mono e1
  have v5 : v 5 = .bool false := hΦ 5 (by decide)
  simp only [layL, Act.put, List.setIfInBounds_toArray, List.set_cons_zero, List.set_cons_succ, Nat.reduceAdd]
  rw [v5]
  clear v5
  clear hΦ
  clear e1
  refine wpList_nil ?_
  go_upto_region 3 with (fail)
  refine wp_region_rgs 11 [some 14, some 15, some 16, some 17, some 18, some 19, some 20, some 21, some 22, some 23, some 24] [IsI k1 z1, IsV (.int .i64 (b : Nat)), IsV (.bool true), IsV (.bool true), IsI k1 z1, IsV (.int .i64 (b : Nat)), IsV (.int .i64 ((b : Nat) - 1)), IsV (.int .i64 (n : Nat)), IsV (.int .i64 (p : Nat)), IsV (.bool false), IsV (.bool false)] [] (by decide) (by kernel_rfl) (by kernel_rfl) (by kernel_rfl) ?_ ?_ ?_ ?_
  · repeat' (first | exact trivial | exact IsV.stb _ | exact IsW.stb _ | exact IsWk.stb _ _ | exact IsI.stb _ _ | exact IsB.stb _ | exact IsR.stb _ _ | exact IsMag.stb _ _ | exact IsPos.stb | apply IsT3.stb | apply IsT2.stb | apply And.intro)
  · exact (fun _ h => by cases h)
  · refine RgAll.cons (by { (with_reducible refine RgL.mk (by rfl) ?_); intro v a w' hE hd hf; have ev0 := hf.lit 2 (.pointer (some ⟨w.heap.size, 0, none⟩)) (by kernel_rfl) (by kernel_rfl); obtain ⟨s8, a8, n8, c8, b8, h8⟩ := (S.mono hE).at 1 (w.heap.size) (IsI k1 z1) rfl; have L0 := b8.c0; have L1 := b8.c1; clear hd hf; intro K hK; go_simp; exact hK.out _ _ (Ext.refl _) h8 (FreshIf.no rfl) }) ?_
    refine RgAll.cons (by { (with_reducible refine RgL.mk (by rfl) ?_); intro v a w' hE hd hf; have d0 : (IsI k1 z1) (v 0) w' := hd 0 (by kernel_rfl); have ev0 := hf.val 0 14 _ rfl (by kernel_rfl) (by kernel_rfl) (by kernel_rfl); clear hd hf; intro K hK; go_simp; go_at_call 28; go_split_ands; (with_reducible refine Calls.mono ((by have hh := RBits_f d0 (by omega); rw [HB.out] at hh; exact hh)) ?_); rintro e w2 ⟨x, rfl, e2, hx⟩; exact hK.out _ _ e2 hx (FreshIf.no rfl) }) ?_
    refine RgAll.cons (by { (with_reducible refine RgL.mk (by rfl) ?_); intro v a w' hE hd hf; have d0 : v 1 = .int .i64 (b : Nat) := hd 1 (by kernel_rfl); have ev0 := hf.val 1 15 _ d0 (by kernel_rfl) (by kernel_rfl) (by kernel_rfl); clear d0; have hx9 := HB1.out; clear hd hf; intro K hK; go_simp; exact hK.out _ _ (Ext.refl _) rfl (FreshIf.no rfl) }) ?_
    refine RgAll.cons (by { (with_reducible refine RgL.mk (by rfl) ?_); intro v a w' hE hd hf; have d0 : v 2 = .bool true := hd 2 (by kernel_rfl); have ev0 := hf.val 2 16 _ d0 (by kernel_rfl) (by kernel_rfl) (by kernel_rfl); clear d0; clear hd hf; intro K hK; go_simp; exact hK.out _ _ (Ext.refl _) rfl (FreshIf.no rfl) }) ?_
    refine RgAll.cons (by { (with_reducible refine RgL.mkG 3 17 true (by rfl) (by kernel_rfl) (by kernel_rfl) (by kernel_rfl) (by kernel_rfl) (by kernel_rfl) ?_ ?_); (focus (intro _ _ h; exact h)); intro v a w' hE hd hf; have ev0 := hf.lit 2 (.pointer (some ⟨w.heap.size, 0, none⟩)) (by kernel_rfl) (by kernel_rfl); obtain ⟨s8, a8, n8, c8, b8, h8⟩ := (S.mono hE).at 1 (w.heap.size) (IsI k1 z1) rfl; have L0 := b8.c0; have L1 := b8.c1; clear hd hf; intro K hK; go_simp; exact hK.out _ _ (Ext.refl _) h8 (FreshIf.no rfl) }) ?_
    refine RgAll.cons (by { (with_reducible refine RgL.mkG 3 17 true (by rfl) (by kernel_rfl) (by kernel_rfl) (by kernel_rfl) (by kernel_rfl) (by kernel_rfl) ?_ ?_); (focus (intro _ _ h; exact h)); intro v a w' hE hd hf; have d0 : (IsI k1 z1) (v 4) w' := hd 4 (by kernel_rfl); have ev0 := hf.val 4 18 _ rfl (by kernel_rfl) (by kernel_rfl) (by kernel_rfl); clear hd hf; intro K hK; go_simp; go_at_call 28; go_split_ands; (with_reducible refine Calls.mono ((by have hh := RBits_f d0 (by omega); rw [HB.out] at hh; exact hh)) ?_); rintro e w2 ⟨x, rfl, e2, hx⟩; exact hK.out _ _ e2 hx (FreshIf.no rfl) }) ?_
    refine RgAll.cons (by { (with_reducible refine RgL.mkG 3 17 true (by rfl) (by kernel_rfl) (by kernel_rfl) (by kernel_rfl) (by kernel_rfl) (by kernel_rfl) ?_ ?_); (focus (intro _ _ h; exact h)); intro v a w' hE hd hf; have d0 : v 5 = .int .i64 (b : Nat) := hd 5 (by kernel_rfl); have ev0 := hf.val 5 19 _ d0 (by kernel_rfl) (by kernel_rfl) (by kernel_rfl); clear d0; have hx9 := HW1.out; clear hd hf; intro K hK; go_simp; exact hK.out _ _ (Ext.refl _) rfl (FreshIf.no rfl) }) ?_
    refine RgAll.cons (by { (with_reducible refine RgL.mkG 3 17 true (by rfl) (by kernel_rfl) (by kernel_rfl) (by kernel_rfl) (by kernel_rfl) (by kernel_rfl) ?_ ?_); (focus (intro _ _ h; exact h)); intro v a w' hE hd hf; have ev0 := hf.lit 1 (.int .i64 (n : Nat)) (by kernel_rfl) (by kernel_rfl); clear hd hf; intro K hK; go_simp; exact hK.out _ _ (Ext.refl _) rfl (FreshIf.no rfl) }) ?_
    refine RgAll.cons (by { (with_reducible refine RgL.mkG 3 17 true (by rfl) (by kernel_rfl) (by kernel_rfl) (by kernel_rfl) (by kernel_rfl) (by kernel_rfl) ?_ ?_); (focus (intro _ _ h; exact h)); intro v a w' hE hd hf; have d0 : v 6 = .int .i64 ((b : Nat) - 1) := hd 6 (by kernel_rfl); have ev0 := hf.val 6 20 _ d0 (by kernel_rfl) (by kernel_rfl) (by kernel_rfl); clear d0; have d1 : v 7 = .int .i64 (n : Nat) := hd 7 (by kernel_rfl); have ev1 := hf.val 7 21 _ d1 (by kernel_rfl) (by kernel_rfl) (by kernel_rfl); clear d1; have hx9 := HPR.out; have hx8 := HPW.out; clear hd hf; intro K hK; go_simp; exact hK.out _ _ (Ext.refl _) rfl (FreshIf.no rfl) }) ?_
    refine RgAll.cons (by { (with_reducible refine RgL.mkG 3 17 true (by rfl) (by kernel_rfl) (by kernel_rfl) (by kernel_rfl) (by kernel_rfl) (by kernel_rfl) ?_ ?_); (focus (intro _ _ h; exact h)); intro v a w' hE hd hf; have d0 : v 8 = .int .i64 (p : Nat) := hd 8 (by kernel_rfl); have ev0 := hf.val 8 22 _ d0 (by kernel_rfl) (by kernel_rfl) (by kernel_rfl); clear d0; have hx9 := HPC.out; clear hd hf; intro K hK; go_simp; exact hK.out _ _ (Ext.refl _) rfl (FreshIf.no rfl) }) ?_
    refine RgAll.cons (by { (with_reducible refine RgL.mk (by rfl) ?_); intro v a w' hE hd hf; have d0 : v 3 = .bool true := hd 3 (by kernel_rfl); have ev0 := hf.val 3 17 _ d0 (by kernel_rfl) (by kernel_rfl) (by kernel_rfl); clear d0; have d1 : v 9 = .bool false := hd 9 (by kernel_rfl); have ev1 := hf.val 9 23 _ d1 (by kernel_rfl) (by kernel_rfl) (by kernel_rfl); clear d1; clear hd hf; intro K hK; go_simp; exact hK.out _ _ (Ext.refl _) rfl (FreshIf.no rfl) }) ?_
    exact RgAll.nil
  intro v W2 e1 hΦ _
  replace S := S.mono e1
  have v10 : v 10 = .bool false := hΦ 10 (by decide)
  simp only [layL, Act.put, List.setIfInBounds_toArray, List.set_cons_zero, List.set_cons_succ, Nat.reduceAdd]
  rw [v10]
  clear v10
  clear hΦ
  clear e1
  refine wpList_nil ?_
  go_upto_region 5 with (fail)
  have hl := hid S.lt; have hw := S.ext.size
  refine wp_region_rgs 4 [some 26, some 27, some 28, some 6] [IsI k1 z1, IsV (.int .i64 (n : Nat)), IsI (k1 * n + 2) (z1 ^ n), IsB W2] [3] (by decide) (by kernel_rfl) (by kernel_rfl) (by kernel_rfl) ?_ ?_ ?_ ?_
  · repeat' (first | exact trivial | exact IsV.stb _ | exact IsW.stb _ | exact IsWk.stb _ _ | exact IsI.stb _ _ | exact IsB.stb _ | exact IsR.stb _ _ | exact IsMag.stb _ _ | exact IsPos.stb | apply IsT3.stb | apply IsT2.stb | apply And.intro)
  · intro i hi; simp only [List.mem_cons, List.not_mem_nil, or_false] at hi; subst hi; exact IsB.box _
  · refine RgAll.cons (by { (with_reducible refine RgL.mk (by rfl) ?_); intro v a w' hE hd hf; have ev0 := hf.lit 2 (.pointer (some ⟨w.heap.size, 0, none⟩)) (by kernel_rfl) (by kernel_rfl); obtain ⟨s8, a8, n8, c8, b8, h8⟩ := (S.mono hE).at 1 (w.heap.size) (IsI k1 z1) rfl; have L0 := b8.c0; have L1 := b8.c1; clear hd hf; intro K hK; go_simp; exact hK.out _ _ (Ext.refl _) h8 (FreshIf.no rfl) }) ?_
    refine RgAll.cons (by { (with_reducible refine RgL.mk (by rfl) ?_); intro v a w' hE hd hf; have ev0 := hf.lit 1 (.int .i64 (n : Nat)) (by kernel_rfl) (by kernel_rfl); clear hd hf; intro K hK; go_simp; exact hK.out _ _ (Ext.refl _) rfl (FreshIf.no rfl) }) ?_
    refine RgAll.cons (by { (with_reducible refine RgL.mk (by rfl) ?_); intro v a w' hE hd hf; have d0 : (IsI k1 z1) (v 0) w' := hd 0 (by kernel_rfl); have ev0 := hf.val 0 26 _ rfl (by kernel_rfl) (by kernel_rfl) (by kernel_rfl); have d1 : v 1 = .int .i64 (n : Nat) := hd 1 (by kernel_rfl); have ev1 := hf.val 1 27 _ d1 (by kernel_rfl) (by kernel_rfl) (by kernel_rfl); clear d1; clear hd hf; intro K hK; go_simp; go_at_call 36; go_split_ands; (with_reducible refine Calls.mono (RPower_f d0 n (by have := HKN.out; omega) (by have := HNL.out; omega)) ?_); rintro e w2 ⟨x, rfl, e2, hx⟩; exact hK.out _ _ e2 hx (FreshIf.no rfl) }) ?_
    refine RgAll.cons (by { (with_reducible refine RgL.mk (by rfl) ?_); intro v a w' hE hd hf; skip; clear hd hf; intro K hK; go_simp; refine hK.out _ _ ((Ext.refl _).alloc _) ⟨_, rfl, hE.size, Bx.new _ _ _ _ _⟩ FreshIf.yes }) ?_
    exact RgAll.nil
  intro v W3 e1 hΦ _
  replace S := S.mono e1
  obtain ⟨s28, a28, n28, c28, v2, h28⟩ := (hΦ 2 (by decide) : IsI (k1 * n + 2) (z1 ^ n) (v 2) W3)
  obtain ⟨g6, v3, q2, b1⟩ := (hΦ 3 (by decide) : IsB W2 (v 3) W3)
  replace S := S.addN (Apart.old hl.out q2) (Nat.le_trans hw q2) b1
  clear b1
  simp only [layL, Act.put, List.setIfInBounds_toArray, List.set_cons_zero, List.set_cons_succ, Nat.reduceAdd]
  rw [v2, v3]
  clear v2 v3
  clear hΦ
  clear hl hw
  clear e1
  obtain ⟨s8, a8, n8, c8, b8, _⟩ := S.at 0 (g6) (IsI 0 0) rfl; have F1 := b8.c0; have F2 := b8.c1; have F3 := b8.f0; have F4 := b8.f1
  refine wpList_step fun K hK => ?_; go_simp; refine hK _ _ ?_; clear hK K
  clear F1 F2 F3 F4 b8
  obtain ⟨W4, hW, S2, G2, _⟩ := S.put 0 (g6) (IsI 0 0) (IsI (k1 * n + 2) (z1 ^ n)) rfl s28 a28 n28 c28 (IsI.gstb _ _) ⟨_, _, _, _, rfl, h28⟩
  rw [← hW]; clear hW S
  have S : St w W4 [(g6, IsI (k1 * n + 2) (z1 ^ n)), (w.heap.size + 1, IsI 0 0), (w.heap.size, IsI k1 z1)] := S2; clear S2 G2
  clear h28
  refine wpList_nil ?_
  go_upto_region 6 with (fail)
  refine wp_region_rgs 3 [some 29, some 30, some 31] [IsI (k1 * n + 2) (z1 ^ n), IsV (.int .i64 (d : Nat)), IsV (.bool true)] [] (by decide) (by kernel_rfl) (by kernel_rfl) (by kernel_rfl) ?_ ?_ ?_ ?_
  · repeat' (first | exact trivial | exact IsV.stb _ | exact IsW.stb _ | exact IsWk.stb _ _ | exact IsI.stb _ _ | exact IsB.stb _ | exact IsR.stb _ _ | exact IsMag.stb _ _ | exact IsPos.stb | apply IsT3.stb | apply IsT2.stb | apply And.intro)
  · exact (fun _ h => by cases h)
  · refine RgAll.cons (by { (with_reducible refine RgL.mk (by rfl) ?_); intro v a w' hE hd hf; have ev0 := hf.lit 6 (.pointer (some ⟨g6, 0, none⟩)) (by kernel_rfl) (by kernel_rfl); obtain ⟨s8, a8, n8, c8, b8, h8⟩ := (S.mono hE).at 0 (g6) (IsI (k1 * n + 2) (z1 ^ n)) rfl; have L0 := b8.c0; have L1 := b8.c1; clear hd hf; intro K hK; go_simp; exact hK.out _ _ (Ext.refl _) h8 (FreshIf.no rfl) }) ?_
    refine RgAll.cons (by { (with_reducible refine RgL.mk (by rfl) ?_); intro v a w' hE hd hf; have d0 : (IsI (k1 * n + 2) (z1 ^ n)) (v 0) w' := hd 0 (by kernel_rfl); have ev0 := hf.val 0 29 _ rfl (by kernel_rfl) (by kernel_rfl) (by kernel_rfl); clear hd hf; intro K hK; go_simp; go_at_call 28; go_split_ands; (with_reducible refine Calls.mono ((by have hh := RBits_f d0 (by have := HKN.out; omega); rw [HD.out] at hh; exact hh)) ?_); rintro e w2 ⟨x, rfl, e2, hx⟩; exact hK.out _ _ e2 hx (FreshIf.no rfl) }) ?_
    refine RgAll.cons (by { (with_reducible refine RgL.mk (by rfl) ?_); intro v a w' hE hd hf; have d0 : v 1 = .int .i64 (d : Nat) := hd 1 (by kernel_rfl); have ev0 := hf.val 1 30 _ d0 (by kernel_rfl) (by kernel_rfl) (by kernel_rfl); clear d0; have hx9 := HD4.out; clear hd hf; intro K hK; go_simp; exact hK.out _ _ (Ext.refl _) rfl (FreshIf.no rfl) }) ?_
    exact RgAll.nil
  intro v W5 e1 hΦ _
  replace S := S.mono e1
  have v2 : v 2 = .bool true := hΦ 2 (by decide)
  simp only [layL, Act.put, List.setIfInBounds_toArray, List.set_cons_zero, List.set_cons_succ, Nat.reduceAdd]
  rw [v2]
  clear v2
  clear hΦ
  clear e1
  refine wpList_nil ?_
  go_upto_region 7 with (fail)
  refine wp_region_rgs 1 [some 32] [IsI 0 0] [] (by decide) (by kernel_rfl) (by kernel_rfl) (by kernel_rfl) ?_ ?_ ?_ ?_
  · repeat' (first | exact trivial | exact IsV.stb _ | exact IsW.stb _ | exact IsWk.stb _ _ | exact IsI.stb _ _ | exact IsB.stb _ | exact IsR.stb _ _ | exact IsMag.stb _ _ | exact IsPos.stb | apply IsT3.stb | apply IsT2.stb | apply And.intro)
  · exact (fun _ h => by cases h)
  · refine RgAll.cons (by { (with_reducible refine RgL.mk (by rfl) ?_); intro v a w' hE hd hf; skip; clear hd hf; intro K hK; go_simp; exact hK.out _ _ (Ext.refl _) (IsI.nil _ _) (FreshIf.no rfl) }) ?_
    exact RgAll.nil
  intro v W6 e1 hΦ _
  replace S := S.mono e1
  obtain ⟨s32, a32, n32, c32, v0, h32⟩ := (hΦ 0 (by decide) : IsI 0 0 (v 0) W6)
  simp only [layL, Act.put, List.setIfInBounds_toArray, List.set_cons_zero, List.set_cons_succ]
  rw [v0]
  clear v0
  clear hΦ
  clear e1
  obtain ⟨s8, a8, n8, c8, b8, _⟩ := S.at 1 (w.heap.size + 1) (IsI 0 0) rfl; have F1 := b8.c0; have F2 := b8.c1; have F3 := b8.f0; have F4 := b8.f1
  refine wpList_step fun K hK => ?_; go_simp; refine hK _ _ ?_; clear hK K
  clear F1 F2 F3 F4 b8
  obtain ⟨W7, hW, S2, G2, _⟩ := S.put 1 (w.heap.size + 1) (IsI 0 0) (IsI 0 0) rfl s32 a32 n32 c32 (IsI.gstb _ _) ⟨_, _, _, _, rfl, h32⟩
  rw [← hW]; clear hW S
  have S : St w W7 [(g6, IsI (k1 * n + 2) (z1 ^ n)), (w.heap.size + 1, IsI 0 0), (w.heap.size, IsI k1 z1)] := S2; clear S2 G2
  clear h32
  refine wpList_step fun K hK => ?_; go_simp; refine hK _ _ ?_; clear hK K
  refine wpList_nil ?_
  go_wp2_with fail
  obtain ⟨rs0, ra0, rn0, rc0, rb0, rh0⟩ := S.at 1 (w.heap.size + 1) (IsI 0 0) rfl; have T0 := rb0.c0; have U0 := rb0.c1
  exact bodyPost_ret (v := .tuple #[.agg #[.bool rs0, .slice ra0 rn0 rc0], .int .i64 2]) (by simp [results, Tryz.results34, go_sem, T0, U0]) rfl (⟨_, rfl, S.ext, _, _, rfl, rh0, rfl⟩)

theorem pow_cast (b n : Nat) (h : 1 < b) : ((b : Nat) - 1 : Int) * n = ((b - 1) * n : Nat) := by
  rw [Int.natCast_mul, Int.natCast_sub (by omega)]; rfl
theorem RPowbig_f {k1 : Nat} {z1 : Int} {x : Value} {w : World} (hx : IsI k1 z1 x w) (l1 : k1 ≤ 1024) (n : Nat) (h4 : n ≤ 4096) (hb1 : 1 < bitLen z1.natAbs) (hb2 : 4096 ≤ ((bitLen z1.natAbs : Nat) - 1 : Int) * n) :
    Calls Tryz.prog 34 #[x, .int .i64 n] w (Ret w (IsT2 (IsI 0 0) (IsV (.int .i64 2)))) := by
  rw [pow_cast _ _ hb1] at hb2
  exact RPowbig_c hx l1 n h4 _ _ rfl rfl hb1 (by omega)
theorem RPow_f {k1 : Nat} {z1 : Int} {x : Value} {w : World} (hx : IsI k1 z1 x w) (l1 : k1 ≤ 1024) (n : Nat) (h4 : n ≤ 4096) (hb : ¬ (1 < bitLen z1.natAbs ∧ (4096 : Int) ≤ ((bitLen z1.natAbs : Nat) - 1 : Int) * n)) (hs : bitLen (z1 ^ n).natAbs ≤ 4096) :
    Calls Tryz.prog 34 #[x, .int .i64 n] w (Ret w (IsT2 (IsI 128 (z1 ^ n)) (IsV (.int .i64 0)))) := by
  by_cases h1 : 1 < bitLen z1.natAbs
  · rw [pow_cast _ _ h1] at hb
    exact RPow2_c hx l1 n h4 _ _ rfl rfl h1 (by omega) _ rfl hs
  · exact RPow1_c hx l1 n h4 _ _ rfl rfl (by omega) _ rfl hs
theorem RPowhuge_f {k1 : Nat} {z1 : Int} {x : Value} {w : World} (hx : IsI k1 z1 x w) (l1 : k1 ≤ 1024) (n : Nat) (h4 : n ≤ 4096) (hb : ¬ (1 < bitLen z1.natAbs ∧ (4096 : Int) ≤ ((bitLen z1.natAbs : Nat) - 1 : Int) * n)) (hs : 4096 < bitLen (z1 ^ n).natAbs) :
    Calls Tryz.prog 34 #[x, .int .i64 n] w (Ret w (IsT2 (IsI 0 0) (IsV (.int .i64 2)))) := by
  by_cases h1 : 1 < bitLen z1.natAbs
  · rw [pow_cast _ _ h1] at hb
    exact RPow2h_c hx l1 n h4 _ _ rfl rfl h1 (by omega) _ rfl hs
  · exact RPow1h_c hx l1 n h4 _ _ rfl rfl (by omega) _ rfl hs
end Go.Proofs.YtpflfagjkmeeiaaGreatDoor
