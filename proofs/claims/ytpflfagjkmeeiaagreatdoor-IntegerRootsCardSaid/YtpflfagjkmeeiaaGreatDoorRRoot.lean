/-
  The reference package: Root. Every integer of at most 1024 words, every degree. (Printed by wip/gen/rroot.py.)
-/
import Derived.Test.YtpflfagjkmeeiaaGreatDoorRSqrt
namespace Go.Proofs.YtpflfagjkmeeiaaGreatDoor
open Go Go.RowKit

theorem root_size (m k1 s r i q : Nat) (hm : m < 4294967296 ^ k1) (h1 : s ≤ r) (h2 : r ≤ m) (h3 : i ≤ q) (h4 : 2 ^ q ≤ m) : s + 2 ^ i < 4294967296 ^ (k1 + 1) := by
  have h5 : 2 ^ i ≤ 2 ^ q := Nat.pow_le_pow_right (by decide) h3
  rw [Nat.pow_succ]; omega

set_option maxRecDepth 100000 in
set_option maxHeartbeats 4000000 in
theorem RRootneg_f {k1 : Nat} {z1 : Int} {x : Value} {w : World} (hx : IsI k1 z1 x w) (kk : Int) (h : z1 < 0 ∨ kk < 1) :
    Calls Tryz.prog 32 #[x, .int .i64 kk] w (Ret w (IsT2 (IsI 0 0) (IsV (.int .i64 1)))) := by
  obtain ⟨s1, a1, n1, c1, rfl, h1⟩ := hx
  rcases (by omega : z1 < 0 ∨ (0 ≤ z1 ∧ kk < 1)) with h0 | ⟨h0, hk⟩
  · have H0 := hid h0
    clear h h0
    obtain ⟨W, hW, S⟩ : ∃ W, W = (w.alloc (.cells #[.bool s1, .slice a1 n1 c1] 27)).alloc (.cells #[.bool false, .slice none 0 0] 27) ∧ St w W [(w.heap.size + 1, IsI 0 0), (w.heap.size, IsI k1 z1)] := ⟨_, rfl, (((St.start w).new' (w.heap.size) (by simp) s1 a1 n1 c1 27 (IsI k1 z1) (IsI.gstb _ _) ⟨_, _, _, _, rfl, h1⟩).new' (w.heap.size + 1) (by simp) false none 0 0 27 (IsI 0 0) (IsI.gstb _ _) (IsI.nil _ _))⟩
    clear h1
    go_enter Tryz.func32, Tryz.ntmps32
    go_upto_region 1 with (fail)
    rw [← hW]
    clear hW
    refine wp_region_rgs 6 [some 9, some 10, some 11, some 12, some 13, some 14] [IsV (.pointer (some ⟨w.heap.size, 0, none⟩)), IsV (.bool true), IsV (.bool true), IsV (undef), IsV (undef), IsV (.bool true)] [] (by decide) (by kernel_rfl) (by kernel_rfl) (by kernel_rfl) ?_ ?_ ?_ ?_
    · repeat' (first | exact trivial | exact IsV.stb _ | exact IsW.stb _ | exact IsWk.stb _ _ | exact IsI.stb _ _ | exact IsB.stb _ | exact IsR.stb _ _ | exact IsMag.stb _ _ | exact IsPos.stb | apply IsT3.stb | apply IsT2.stb | apply And.intro)
    · exact (fun _ h => by cases h)
    · refine RgAll.cons (by { (with_reducible refine RgL.mk (by rfl) ?_); intro v a w' hE hd hf; have ev0 := hf.lit 2 (.pointer (some ⟨w.heap.size, 0, none⟩)) (by kernel_rfl) (by kernel_rfl); clear hd hf; intro K hK; go_simp; exact hK.out _ _ (Ext.refl _) rfl (FreshIf.no rfl) }) ?_
      refine RgAll.cons (by { (with_reducible refine RgL.mk (by rfl) ?_); intro v a w' hE hd hf; have d0 : v 0 = .pointer (some ⟨w.heap.size, 0, none⟩) := hd 0 (by kernel_rfl); have ev0 := hf.val 0 9 _ d0 (by kernel_rfl) (by kernel_rfl) (by kernel_rfl); clear d0; obtain ⟨s8, a8, n8, c8, b8, h8⟩ := (S.mono hE).at 1 (w.heap.size) (IsI k1 z1) rfl; have L0 := b8.c0; have L1 := b8.c1; obtain rfl := h8.neg' (H0.out); clear hd hf; intro K hK; go_simp; exact hK.out _ _ (Ext.refl _) rfl (FreshIf.no rfl) }) ?_
      refine RgAll.cons (by { (with_reducible refine RgL.mk (by rfl) ?_); intro v a w' hE hd hf; have d0 : v 1 = .bool true := hd 1 (by kernel_rfl); have ev0 := hf.val 1 10 _ d0 (by kernel_rfl) (by kernel_rfl) (by kernel_rfl); clear d0; clear hd hf; intro K hK; go_simp; exact hK.out _ _ (Ext.refl _) rfl (FreshIf.no rfl) }) ?_
      refine RgAll.cons (by { (with_reducible refine RgL.mkN 2 11 true (by kernel_rfl) (by kernel_rfl) (by kernel_rfl) (by kernel_rfl) (by kernel_rfl) (by kernel_rfl) ?_ (by kernel_rfl) ?_); (focus (intro _ _ h; exact h)); (focus (intro _; rfl)) }) ?_
      refine RgAll.cons (by { (with_reducible refine RgL.mkN 2 11 true (by kernel_rfl) (by kernel_rfl) (by kernel_rfl) (by kernel_rfl) (by kernel_rfl) (by kernel_rfl) ?_ (by kernel_rfl) ?_); (focus (intro _ _ h; exact h)); (focus (intro _; rfl)) }) ?_
      refine RgAll.cons (by { (with_reducible refine RgL.mk (by rfl) ?_); intro v a w' hE hd hf; have d0 : v 2 = .bool true := hd 2 (by kernel_rfl); have ev0 := hf.val 2 11 _ d0 (by kernel_rfl) (by kernel_rfl) (by kernel_rfl); clear d0; clear hd hf; intro K hK; go_simp; exact hK.out _ _ (Ext.refl _) rfl (FreshIf.no rfl) }) ?_
      exact RgAll.nil
    intro v W1 e1 hΦ _
    replace S := S.mono e1
    have v5 : v 5 = .bool true := hΦ 5 (by decide)
    simp only [layL, Act.put, List.setIfInBounds_toArray, List.set_cons_zero, List.set_cons_succ, Nat.reduceAdd]
    rw [v5]
    clear v5
    clear hΦ
    clear e1
    refine wpList_nil ?_
    go_upto_region 2 with (fail)
    refine wp_region_rgs 1 [some 15] [IsI 0 0] [] (by decide) (by kernel_rfl) (by kernel_rfl) (by kernel_rfl) ?_ ?_ ?_ ?_
    · repeat' (first | exact trivial | exact IsV.stb _ | exact IsW.stb _ | exact IsWk.stb _ _ | exact IsI.stb _ _ | exact IsB.stb _ | exact IsR.stb _ _ | exact IsMag.stb _ _ | exact IsPos.stb | apply IsT3.stb | apply IsT2.stb | apply And.intro)
    · exact (fun _ h => by cases h)
    · refine RgAll.cons (by { (with_reducible refine RgL.mk (by rfl) ?_); intro v a w' hE hd hf; skip; clear hd hf; intro K hK; go_simp; exact hK.out _ _ (Ext.refl _) (IsI.nil _ _) (FreshIf.no rfl) }) ?_
      exact RgAll.nil
    intro v W2 e1 hΦ _
    replace S := S.mono e1
    obtain ⟨s15, a15, n15, c15, v0, h15⟩ := (hΦ 0 (by decide) : IsI 0 0 (v 0) W2)
    simp only [layL, Act.put, List.setIfInBounds_toArray, List.set_cons_zero, List.set_cons_succ]
    rw [v0]
    clear v0
    clear hΦ
    clear e1
    obtain ⟨s8, a8, n8, c8, b8, _⟩ := S.at 0 (w.heap.size + 1) (IsI 0 0) rfl; have F1 := b8.c0; have F2 := b8.c1; have F3 := b8.f0; have F4 := b8.f1
    refine wpList_step fun K hK => ?_; go_simp; refine hK _ _ ?_; clear hK K
    clear F1 F2 F3 F4 b8
    obtain ⟨W3, hW, S2, G2, _⟩ := S.put 0 (w.heap.size + 1) (IsI 0 0) (IsI 0 0) rfl s15 a15 n15 c15 (IsI.gstb _ _) ⟨_, _, _, _, rfl, h15⟩
    rw [← hW]; clear hW S
    have S : St w W3 [(w.heap.size + 1, IsI 0 0), (w.heap.size, IsI k1 z1)] := S2; clear S2 G2
    clear h15
    refine wpList_step fun K hK => ?_; go_simp; refine hK _ _ ?_; clear hK K
    refine wpList_nil ?_
    go_wp2_with fail
    obtain ⟨rs0, ra0, rn0, rc0, rb0, rh0⟩ := S.at 0 (w.heap.size + 1) (IsI 0 0) rfl; have T0 := rb0.c0; have U0 := rb0.c1
    exact bodyPost_ret (v := .tuple #[.agg #[.bool rs0, .slice ra0 rn0 rc0], .int .i64 1]) (by simp [results, Tryz.results32, go_sem, T0, U0]) rfl (⟨_, rfl, S.ext, _, _, rfl, rh0, rfl⟩)
  · have H0 := hid h0
    have HK := hid (show decide (kk < 1) = true by simpa using hk)
    clear h h0 hk
    obtain ⟨W, hW, S⟩ : ∃ W, W = (w.alloc (.cells #[.bool s1, .slice a1 n1 c1] 27)).alloc (.cells #[.bool false, .slice none 0 0] 27) ∧ St w W [(w.heap.size + 1, IsI 0 0), (w.heap.size, IsI k1 z1)] := ⟨_, rfl, (((St.start w).new' (w.heap.size) (by simp) s1 a1 n1 c1 27 (IsI k1 z1) (IsI.gstb _ _) ⟨_, _, _, _, rfl, h1⟩).new' (w.heap.size + 1) (by simp) false none 0 0 27 (IsI 0 0) (IsI.gstb _ _) (IsI.nil _ _))⟩
    clear h1
    go_enter Tryz.func32, Tryz.ntmps32
    go_upto_region 1 with (fail)
    rw [← hW]
    clear hW
    refine wp_region_rgs 6 [some 9, some 10, some 11, some 12, some 13, some 14] [IsV (.pointer (some ⟨w.heap.size, 0, none⟩)), IsV (.bool false), IsV (.bool false), IsV (.int .i64 kk), IsV (.bool true), IsV (.bool true)] [] (by decide) (by kernel_rfl) (by kernel_rfl) (by kernel_rfl) ?_ ?_ ?_ ?_
    · repeat' (first | exact trivial | exact IsV.stb _ | exact IsW.stb _ | exact IsWk.stb _ _ | exact IsI.stb _ _ | exact IsB.stb _ | exact IsR.stb _ _ | exact IsMag.stb _ _ | exact IsPos.stb | apply IsT3.stb | apply IsT2.stb | apply And.intro)
    · exact (fun _ h => by cases h)
    · refine RgAll.cons (by { (with_reducible refine RgL.mk (by rfl) ?_); intro v a w' hE hd hf; have ev0 := hf.lit 2 (.pointer (some ⟨w.heap.size, 0, none⟩)) (by kernel_rfl) (by kernel_rfl); clear hd hf; intro K hK; go_simp; exact hK.out _ _ (Ext.refl _) rfl (FreshIf.no rfl) }) ?_
      refine RgAll.cons (by { (with_reducible refine RgL.mk (by rfl) ?_); intro v a w' hE hd hf; have d0 : v 0 = .pointer (some ⟨w.heap.size, 0, none⟩) := hd 0 (by kernel_rfl); have ev0 := hf.val 0 9 _ d0 (by kernel_rfl) (by kernel_rfl) (by kernel_rfl); clear d0; obtain ⟨s8, a8, n8, c8, b8, h8⟩ := (S.mono hE).at 1 (w.heap.size) (IsI k1 z1) rfl; have L0 := b8.c0; have L1 := b8.c1; obtain rfl := h8.pos' (H0.out); clear hd hf; intro K hK; go_simp; exact hK.out _ _ (Ext.refl _) rfl (FreshIf.no rfl) }) ?_
      refine RgAll.cons (by { (with_reducible refine RgL.mk (by rfl) ?_); intro v a w' hE hd hf; have d0 : v 1 = .bool false := hd 1 (by kernel_rfl); have ev0 := hf.val 1 10 _ d0 (by kernel_rfl) (by kernel_rfl) (by kernel_rfl); clear d0; clear hd hf; intro K hK; go_simp; exact hK.out _ _ (Ext.refl _) rfl (FreshIf.no rfl) }) ?_
      refine RgAll.cons (by { (with_reducible refine RgL.mkG 2 11 false (by rfl) (by kernel_rfl) (by kernel_rfl) (by kernel_rfl) (by kernel_rfl) (by kernel_rfl) ?_ ?_); (focus (intro _ _ h; exact h)); intro v a w' hE hd hf; have ev0 := hf.lit 1 (.int .i64 kk) (by kernel_rfl) (by kernel_rfl); clear hd hf; intro K hK; go_simp; exact hK.out _ _ (Ext.refl _) rfl (FreshIf.no rfl) }) ?_
      refine RgAll.cons (by { (with_reducible refine RgL.mkG 2 11 false (by rfl) (by kernel_rfl) (by kernel_rfl) (by kernel_rfl) (by kernel_rfl) (by kernel_rfl) ?_ ?_); (focus (intro _ _ h; exact h)); intro v a w' hE hd hf; have d0 : v 3 = .int .i64 kk := hd 3 (by kernel_rfl); have ev0 := hf.val 3 12 _ d0 (by kernel_rfl) (by kernel_rfl) (by kernel_rfl); clear d0; have hx9 := HK.out; clear hd hf; intro K hK; go_simp; exact hK.out _ _ (Ext.refl _) rfl (FreshIf.no rfl) }) ?_
      refine RgAll.cons (by { (with_reducible refine RgL.mk (by rfl) ?_); intro v a w' hE hd hf; have d0 : v 2 = .bool false := hd 2 (by kernel_rfl); have ev0 := hf.val 2 11 _ d0 (by kernel_rfl) (by kernel_rfl) (by kernel_rfl); clear d0; have d1 : v 4 = .bool true := hd 4 (by kernel_rfl); have ev1 := hf.val 4 13 _ d1 (by kernel_rfl) (by kernel_rfl) (by kernel_rfl); clear d1; clear hd hf; intro K hK; go_simp; exact hK.out _ _ (Ext.refl _) rfl (FreshIf.no rfl) }) ?_
      exact RgAll.nil
    intro v W1 e1 hΦ _
    replace S := S.mono e1
    have v5 : v 5 = .bool true := hΦ 5 (by decide)
    simp only [layL, Act.put, List.setIfInBounds_toArray, List.set_cons_zero, List.set_cons_succ, Nat.reduceAdd]
    rw [v5]
    clear v5
    clear hΦ
    clear e1
    refine wpList_nil ?_
    go_upto_region 2 with (fail)
    refine wp_region_rgs 1 [some 15] [IsI 0 0] [] (by decide) (by kernel_rfl) (by kernel_rfl) (by kernel_rfl) ?_ ?_ ?_ ?_
    · repeat' (first | exact trivial | exact IsV.stb _ | exact IsW.stb _ | exact IsWk.stb _ _ | exact IsI.stb _ _ | exact IsB.stb _ | exact IsR.stb _ _ | exact IsMag.stb _ _ | exact IsPos.stb | apply IsT3.stb | apply IsT2.stb | apply And.intro)
    · exact (fun _ h => by cases h)
    · refine RgAll.cons (by { (with_reducible refine RgL.mk (by rfl) ?_); intro v a w' hE hd hf; skip; clear hd hf; intro K hK; go_simp; exact hK.out _ _ (Ext.refl _) (IsI.nil _ _) (FreshIf.no rfl) }) ?_
      exact RgAll.nil
    intro v W2 e1 hΦ _
    replace S := S.mono e1
    obtain ⟨s15, a15, n15, c15, v0, h15⟩ := (hΦ 0 (by decide) : IsI 0 0 (v 0) W2)
    simp only [layL, Act.put, List.setIfInBounds_toArray, List.set_cons_zero, List.set_cons_succ]
    rw [v0]
    clear v0
    clear hΦ
    clear e1
    obtain ⟨s8, a8, n8, c8, b8, _⟩ := S.at 0 (w.heap.size + 1) (IsI 0 0) rfl; have F1 := b8.c0; have F2 := b8.c1; have F3 := b8.f0; have F4 := b8.f1
    refine wpList_step fun K hK => ?_; go_simp; refine hK _ _ ?_; clear hK K
    clear F1 F2 F3 F4 b8
    obtain ⟨W3, hW, S2, G2, _⟩ := S.put 0 (w.heap.size + 1) (IsI 0 0) (IsI 0 0) rfl s15 a15 n15 c15 (IsI.gstb _ _) ⟨_, _, _, _, rfl, h15⟩
    rw [← hW]; clear hW S
    have S : St w W3 [(w.heap.size + 1, IsI 0 0), (w.heap.size, IsI k1 z1)] := S2; clear S2 G2
    clear h15
    refine wpList_step fun K hK => ?_; go_simp; refine hK _ _ ?_; clear hK K
    refine wpList_nil ?_
    go_wp2_with fail
    obtain ⟨rs0, ra0, rn0, rc0, rb0, rh0⟩ := S.at 0 (w.heap.size + 1) (IsI 0 0) rfl; have T0 := rb0.c0; have U0 := rb0.c1
    exact bodyPost_ret (v := .tuple #[.agg #[.bool rs0, .slice ra0 rn0 rc0], .int .i64 1]) (by simp [results, Tryz.results32, go_sem, T0, U0]) rfl (⟨_, rfl, S.ext, _, _, rfl, rh0, rfl⟩)
set_option maxRecDepth 100000 in
set_option maxHeartbeats 4000000 in
theorem RRoot1_f {k1 m : Nat} {x : Value} {w : World} (hx : IsI k1 (m : Int) x w) :
    Calls Tryz.prog 32 #[x, .int .i64 1] w (Ret w (IsT2 (IsI k1 (m : Int)) (IsV (.int .i64 0)))) := by
  obtain ⟨s1, a1, n1, c1, rfl, h1⟩ := hx
  have H0 := hid (Int.natCast_nonneg m)
  obtain ⟨W, hW, S⟩ : ∃ W, W = (w.alloc (.cells #[.bool s1, .slice a1 n1 c1] 27)).alloc (.cells #[.bool false, .slice none 0 0] 27) ∧ St w W [(w.heap.size + 1, IsI 0 0), (w.heap.size, IsI k1 ((m : Int)))] := ⟨_, rfl, (((St.start w).new' (w.heap.size) (by simp) s1 a1 n1 c1 27 (IsI k1 ((m : Int))) (IsI.gstb _ _) ⟨_, _, _, _, rfl, h1⟩).new' (w.heap.size + 1) (by simp) false none 0 0 27 (IsI 0 0) (IsI.gstb _ _) (IsI.nil _ _))⟩
  clear h1
  go_enter Tryz.func32, Tryz.ntmps32
  go_upto_region 1 with (fail)
  rw [← hW]
  clear hW
  refine wp_region_rgs 6 [some 9, some 10, some 11, some 12, some 13, some 14] [IsV (.pointer (some ⟨w.heap.size, 0, none⟩)), IsV (.bool false), IsV (.bool false), IsV (.int .i64 1), IsV (.bool false), IsV (.bool false)] [] (by decide) (by kernel_rfl) (by kernel_rfl) (by kernel_rfl) ?_ ?_ ?_ ?_
  · repeat' (first | exact trivial | exact IsV.stb _ | exact IsW.stb _ | exact IsWk.stb _ _ | exact IsI.stb _ _ | exact IsB.stb _ | exact IsR.stb _ _ | exact IsMag.stb _ _ | exact IsPos.stb | apply IsT3.stb | apply IsT2.stb | apply And.intro)
  · exact (fun _ h => by cases h)
  · refine RgAll.cons (by { (with_reducible refine RgL.mk (by rfl) ?_); intro v a w' hE hd hf; have ev0 := hf.lit 2 (.pointer (some ⟨w.heap.size, 0, none⟩)) (by kernel_rfl) (by kernel_rfl); clear hd hf; intro K hK; go_simp; exact hK.out _ _ (Ext.refl _) rfl (FreshIf.no rfl) }) ?_
    refine RgAll.cons (by { (with_reducible refine RgL.mk (by rfl) ?_); intro v a w' hE hd hf; have d0 : v 0 = .pointer (some ⟨w.heap.size, 0, none⟩) := hd 0 (by kernel_rfl); have ev0 := hf.val 0 9 _ d0 (by kernel_rfl) (by kernel_rfl) (by kernel_rfl); clear d0; obtain ⟨s8, a8, n8, c8, b8, h8⟩ := (S.mono hE).at 1 (w.heap.size) (IsI k1 ((m : Int))) rfl; have L0 := b8.c0; have L1 := b8.c1; obtain rfl := h8.pos' (H0.out); clear hd hf; intro K hK; go_simp; exact hK.out _ _ (Ext.refl _) rfl (FreshIf.no rfl) }) ?_
    refine RgAll.cons (by { (with_reducible refine RgL.mk (by rfl) ?_); intro v a w' hE hd hf; have d0 : v 1 = .bool false := hd 1 (by kernel_rfl); have ev0 := hf.val 1 10 _ d0 (by kernel_rfl) (by kernel_rfl) (by kernel_rfl); clear d0; clear hd hf; intro K hK; go_simp; exact hK.out _ _ (Ext.refl _) rfl (FreshIf.no rfl) }) ?_
    refine RgAll.cons (by { (with_reducible refine RgL.mkG 2 11 false (by rfl) (by kernel_rfl) (by kernel_rfl) (by kernel_rfl) (by kernel_rfl) (by kernel_rfl) ?_ ?_); (focus (intro _ _ h; exact h)); intro v a w' hE hd hf; have ev0 := hf.lit 1 (.int .i64 1) (by kernel_rfl) (by kernel_rfl); clear hd hf; intro K hK; go_simp; exact hK.out _ _ (Ext.refl _) rfl (FreshIf.no rfl) }) ?_
    refine RgAll.cons (by { (with_reducible refine RgL.mkG 2 11 false (by rfl) (by kernel_rfl) (by kernel_rfl) (by kernel_rfl) (by kernel_rfl) (by kernel_rfl) ?_ ?_); (focus (intro _ _ h; exact h)); intro v a w' hE hd hf; have d0 : v 3 = .int .i64 1 := hd 3 (by kernel_rfl); have ev0 := hf.val 3 12 _ d0 (by kernel_rfl) (by kernel_rfl) (by kernel_rfl); clear d0; clear hd hf; intro K hK; go_simp; exact hK.out _ _ (Ext.refl _) rfl (FreshIf.no rfl) }) ?_
    refine RgAll.cons (by { (with_reducible refine RgL.mk (by rfl) ?_); intro v a w' hE hd hf; have d0 : v 2 = .bool false := hd 2 (by kernel_rfl); have ev0 := hf.val 2 11 _ d0 (by kernel_rfl) (by kernel_rfl) (by kernel_rfl); clear d0; have d1 : v 4 = .bool false := hd 4 (by kernel_rfl); have ev1 := hf.val 4 13 _ d1 (by kernel_rfl) (by kernel_rfl) (by kernel_rfl); clear d1; clear hd hf; intro K hK; go_simp; exact hK.out _ _ (Ext.refl _) rfl (FreshIf.no rfl) }) ?_
    exact RgAll.nil
  intro v W1 e1 hΦ _
  replace S := S.mono e1
  have v5 : v 5 = .bool false := hΦ 5 (by decide)
  simp only [layL, Act.put, List.setIfInBounds_toArray, List.set_cons_zero, List.set_cons_succ, Nat.reduceAdd]
  rw [v5]
  clear v5
  clear hΦ
  clear e1
  refine wpList_nil ?_
  go_upto_region 3 with (fail)
  refine wp_region_rgs 8 [some 16, some 17, some 18, some 19, some 20, some 21, some 22, some 23] [IsV (.int .i64 1), IsV (.bool true), IsV (.bool true), IsV (undef), IsV (undef), IsV (undef), IsV (undef), IsV (.bool true)] [] (by decide) (by kernel_rfl) (by kernel_rfl) (by kernel_rfl) ?_ ?_ ?_ ?_
  · repeat' (first | exact trivial | exact IsV.stb _ | exact IsW.stb _ | exact IsWk.stb _ _ | exact IsI.stb _ _ | exact IsB.stb _ | exact IsR.stb _ _ | exact IsMag.stb _ _ | exact IsPos.stb | apply IsT3.stb | apply IsT2.stb | apply And.intro)
  · exact (fun _ h => by cases h)
  · refine RgAll.cons (by { (with_reducible refine RgL.mk (by rfl) ?_); intro v a w' hE hd hf; have ev0 := hf.lit 1 (.int .i64 1) (by kernel_rfl) (by kernel_rfl); clear hd hf; intro K hK; go_simp; exact hK.out _ _ (Ext.refl _) rfl (FreshIf.no rfl) }) ?_
    refine RgAll.cons (by { (with_reducible refine RgL.mk (by rfl) ?_); intro v a w' hE hd hf; have d0 : v 0 = .int .i64 1 := hd 0 (by kernel_rfl); have ev0 := hf.val 0 16 _ d0 (by kernel_rfl) (by kernel_rfl) (by kernel_rfl); clear d0; clear hd hf; intro K hK; go_simp; exact hK.out _ _ (Ext.refl _) rfl (FreshIf.no rfl) }) ?_
    refine RgAll.cons (by { (with_reducible refine RgL.mk (by rfl) ?_); intro v a w' hE hd hf; have d0 : v 1 = .bool true := hd 1 (by kernel_rfl); have ev0 := hf.val 1 17 _ d0 (by kernel_rfl) (by kernel_rfl) (by kernel_rfl); clear d0; clear hd hf; intro K hK; go_simp; exact hK.out _ _ (Ext.refl _) rfl (FreshIf.no rfl) }) ?_
    refine RgAll.cons (by { (with_reducible refine RgL.mkN 2 18 true (by kernel_rfl) (by kernel_rfl) (by kernel_rfl) (by kernel_rfl) (by kernel_rfl) (by kernel_rfl) ?_ (by kernel_rfl) ?_); (focus (intro _ _ h; exact h)); (focus (intro _; rfl)) }) ?_
    refine RgAll.cons (by { (with_reducible refine RgL.mkN 2 18 true (by kernel_rfl) (by kernel_rfl) (by kernel_rfl) (by kernel_rfl) (by kernel_rfl) (by kernel_rfl) ?_ (by kernel_rfl) ?_); (focus (intro _ _ h; exact h)); (focus (intro _; rfl)) }) ?_
    refine RgAll.cons (by { (with_reducible refine RgL.mkN 2 18 true (by kernel_rfl) (by kernel_rfl) (by kernel_rfl) (by kernel_rfl) (by kernel_rfl) (by kernel_rfl) ?_ (by kernel_rfl) ?_); (focus (intro _ _ h; exact h)); (focus (intro _; rfl)) }) ?_
    refine RgAll.cons (by { (with_reducible refine RgL.mkN 2 18 true (by kernel_rfl) (by kernel_rfl) (by kernel_rfl) (by kernel_rfl) (by kernel_rfl) (by kernel_rfl) ?_ (by kernel_rfl) ?_); (focus (intro _ _ h; exact h)); (focus (intro _; rfl)) }) ?_
    refine RgAll.cons (by { (with_reducible refine RgL.mk (by rfl) ?_); intro v a w' hE hd hf; have d0 : v 2 = .bool true := hd 2 (by kernel_rfl); have ev0 := hf.val 2 18 _ d0 (by kernel_rfl) (by kernel_rfl) (by kernel_rfl); clear d0; clear hd hf; intro K hK; go_simp; exact hK.out _ _ (Ext.refl _) rfl (FreshIf.no rfl) }) ?_
    exact RgAll.nil
  intro v W2 e1 hΦ _
  replace S := S.mono e1
  have v7 : v 7 = .bool true := hΦ 7 (by decide)
  simp only [layL, Act.put, List.setIfInBounds_toArray, List.set_cons_zero, List.set_cons_succ, Nat.reduceAdd]
  rw [v7]
  clear v7
  clear hΦ
  clear e1
  refine wpList_nil ?_
  go_upto_region 4 with (fail)
  refine wp_region_rgs 1 [some 24] [IsI k1 ((m : Int))] [] (by decide) (by kernel_rfl) (by kernel_rfl) (by kernel_rfl) ?_ ?_ ?_ ?_
  · repeat' (first | exact trivial | exact IsV.stb _ | exact IsW.stb _ | exact IsWk.stb _ _ | exact IsI.stb _ _ | exact IsB.stb _ | exact IsR.stb _ _ | exact IsMag.stb _ _ | exact IsPos.stb | apply IsT3.stb | apply IsT2.stb | apply And.intro)
  · exact (fun _ h => by cases h)
  · refine RgAll.cons (by { (with_reducible refine RgL.mk (by rfl) ?_); intro v a w' hE hd hf; have ev0 := hf.lit 2 (.pointer (some ⟨w.heap.size, 0, none⟩)) (by kernel_rfl) (by kernel_rfl); obtain ⟨s8, a8, n8, c8, b8, h8⟩ := (S.mono hE).at 1 (w.heap.size) (IsI k1 ((m : Int))) rfl; have L0 := b8.c0; have L1 := b8.c1; clear hd hf; intro K hK; go_simp; exact hK.out _ _ (Ext.refl _) h8 (FreshIf.no rfl) }) ?_
    exact RgAll.nil
  intro v W3 e1 hΦ _
  replace S := S.mono e1
  obtain ⟨s24, a24, n24, c24, v0, h24⟩ := (hΦ 0 (by decide) : IsI k1 ((m : Int)) (v 0) W3)
  simp only [layL, Act.put, List.setIfInBounds_toArray, List.set_cons_zero, List.set_cons_succ]
  rw [v0]
  clear v0
  clear hΦ
  clear e1
  obtain ⟨s8, a8, n8, c8, b8, _⟩ := S.at 0 (w.heap.size + 1) (IsI 0 0) rfl; have F1 := b8.c0; have F2 := b8.c1; have F3 := b8.f0; have F4 := b8.f1
  refine wpList_step fun K hK => ?_; go_simp; refine hK _ _ ?_; clear hK K
  clear F1 F2 F3 F4 b8
  obtain ⟨W4, hW, S2, G2, _⟩ := S.put 0 (w.heap.size + 1) (IsI 0 0) (IsI k1 ((m : Int))) rfl s24 a24 n24 c24 (IsI.gstb _ _) ⟨_, _, _, _, rfl, h24⟩
  rw [← hW]; clear hW S
  have S : St w W4 [(w.heap.size + 1, IsI k1 ((m : Int))), (w.heap.size, IsI k1 ((m : Int)))] := S2; clear S2 G2
  clear h24
  refine wpList_step fun K hK => ?_; go_simp; refine hK _ _ ?_; clear hK K
  refine wpList_nil ?_
  go_wp2_with fail
  obtain ⟨rs0, ra0, rn0, rc0, rb0, rh0⟩ := S.at 0 (w.heap.size + 1) (IsI k1 ((m : Int))) rfl; have T0 := rb0.c0; have U0 := rb0.c1
  exact bodyPost_ret (v := .tuple #[.agg #[.bool rs0, .slice ra0 rn0 rc0], .int .i64 0]) (by simp [results, Tryz.results32, go_sem, T0, U0]) rfl (⟨_, rfl, S.ext, _, _, rfl, rh0, rfl⟩)
set_option maxRecDepth 100000 in
set_option maxHeartbeats 4000000 in
theorem RRoot0_f {k1 : Nat} {x : Value} {w : World} (hx : IsI k1 0 x w) (k : Nat) (hk : 2 ≤ k) :
    Calls Tryz.prog 32 #[x, .int .i64 (k : Nat)] w (Ret w (IsT2 (IsI k1 0) (IsV (.int .i64 0)))) := by
  obtain ⟨s1, a1, n1, c1, rfl, h1⟩ := hx
  have H0 := hid (Int.le_refl 0)
  have HK := hid (show decide (((k : Nat) : Int) < 1) = false by simp; omega)
  have HK1 := hid (show (((k : Nat) : Int) == 1) = false by rw [beq_eq_false_iff_ne]; omega)
  clear hk
  obtain ⟨W, hW, S⟩ : ∃ W, W = (w.alloc (.cells #[.bool s1, .slice a1 n1 c1] 27)).alloc (.cells #[.bool false, .slice none 0 0] 27) ∧ St w W [(w.heap.size + 1, IsI 0 0), (w.heap.size, IsI k1 0)] := ⟨_, rfl, (((St.start w).new' (w.heap.size) (by simp) s1 a1 n1 c1 27 (IsI k1 0) (IsI.gstb _ _) ⟨_, _, _, _, rfl, h1⟩).new' (w.heap.size + 1) (by simp) false none 0 0 27 (IsI 0 0) (IsI.gstb _ _) (IsI.nil _ _))⟩
  clear h1
  go_enter Tryz.func32, Tryz.ntmps32
  go_upto_region 1 with (fail)
  rw [← hW]
  clear hW
  refine wp_region_rgs 6 [some 9, some 10, some 11, some 12, some 13, some 14] [IsV (.pointer (some ⟨w.heap.size, 0, none⟩)), IsV (.bool false), IsV (.bool false), IsV (.int .i64 ((k : Nat) : Int)), IsV (.bool false), IsV (.bool false)] [] (by decide) (by kernel_rfl) (by kernel_rfl) (by kernel_rfl) ?_ ?_ ?_ ?_
  · repeat' (first | exact trivial | exact IsV.stb _ | exact IsW.stb _ | exact IsWk.stb _ _ | exact IsI.stb _ _ | exact IsB.stb _ | exact IsR.stb _ _ | exact IsMag.stb _ _ | exact IsPos.stb | apply IsT3.stb | apply IsT2.stb | apply And.intro)
  · exact (fun _ h => by cases h)
  · refine RgAll.cons (by { (with_reducible refine RgL.mk (by rfl) ?_); intro v a w' hE hd hf; have ev0 := hf.lit 2 (.pointer (some ⟨w.heap.size, 0, none⟩)) (by kernel_rfl) (by kernel_rfl); clear hd hf; intro K hK; go_simp; exact hK.out _ _ (Ext.refl _) rfl (FreshIf.no rfl) }) ?_
    refine RgAll.cons (by { (with_reducible refine RgL.mk (by rfl) ?_); intro v a w' hE hd hf; have d0 : v 0 = .pointer (some ⟨w.heap.size, 0, none⟩) := hd 0 (by kernel_rfl); have ev0 := hf.val 0 9 _ d0 (by kernel_rfl) (by kernel_rfl) (by kernel_rfl); clear d0; obtain ⟨s8, a8, n8, c8, b8, h8⟩ := (S.mono hE).at 1 (w.heap.size) (IsI k1 0) rfl; have L0 := b8.c0; have L1 := b8.c1; obtain rfl := h8.pos' (H0.out); clear hd hf; intro K hK; go_simp; exact hK.out _ _ (Ext.refl _) rfl (FreshIf.no rfl) }) ?_
    refine RgAll.cons (by { (with_reducible refine RgL.mk (by rfl) ?_); intro v a w' hE hd hf; have d0 : v 1 = .bool false := hd 1 (by kernel_rfl); have ev0 := hf.val 1 10 _ d0 (by kernel_rfl) (by kernel_rfl) (by kernel_rfl); clear d0; clear hd hf; intro K hK; go_simp; exact hK.out _ _ (Ext.refl _) rfl (FreshIf.no rfl) }) ?_
    refine RgAll.cons (by { (with_reducible refine RgL.mkG 2 11 false (by rfl) (by kernel_rfl) (by kernel_rfl) (by kernel_rfl) (by kernel_rfl) (by kernel_rfl) ?_ ?_); (focus (intro _ _ h; exact h)); intro v a w' hE hd hf; have ev0 := hf.lit 1 (.int .i64 ((k : Nat) : Int)) (by kernel_rfl) (by kernel_rfl); clear hd hf; intro K hK; go_simp; exact hK.out _ _ (Ext.refl _) rfl (FreshIf.no rfl) }) ?_
    refine RgAll.cons (by { (with_reducible refine RgL.mkG 2 11 false (by rfl) (by kernel_rfl) (by kernel_rfl) (by kernel_rfl) (by kernel_rfl) (by kernel_rfl) ?_ ?_); (focus (intro _ _ h; exact h)); intro v a w' hE hd hf; have d0 : v 3 = .int .i64 ((k : Nat) : Int) := hd 3 (by kernel_rfl); have ev0 := hf.val 3 12 _ d0 (by kernel_rfl) (by kernel_rfl) (by kernel_rfl); clear d0; have hx9 := HK.out; clear hd hf; intro K hK; go_simp; exact hK.out _ _ (Ext.refl _) rfl (FreshIf.no rfl) }) ?_
    refine RgAll.cons (by { (with_reducible refine RgL.mk (by rfl) ?_); intro v a w' hE hd hf; have d0 : v 2 = .bool false := hd 2 (by kernel_rfl); have ev0 := hf.val 2 11 _ d0 (by kernel_rfl) (by kernel_rfl) (by kernel_rfl); clear d0; have d1 : v 4 = .bool false := hd 4 (by kernel_rfl); have ev1 := hf.val 4 13 _ d1 (by kernel_rfl) (by kernel_rfl) (by kernel_rfl); clear d1; clear hd hf; intro K hK; go_simp; exact hK.out _ _ (Ext.refl _) rfl (FreshIf.no rfl) }) ?_
    exact RgAll.nil
  intro v W1 e1 hΦ _
  replace S := S.mono e1
  have v5 : v 5 = .bool false := hΦ 5 (by decide)
  simp only [layL, Act.put, List.setIfInBounds_toArray, List.set_cons_zero, List.set_cons_succ, Nat.reduceAdd]
  rw [v5]
  clear v5
  clear hΦ
  clear e1
  refine wpList_nil ?_
  go_upto_region 3 with (fail)
  refine wp_region_rgs 8 [some 16, some 17, some 18, some 19, some 20, some 21, some 22, some 23] [IsV (.int .i64 ((k : Nat) : Int)), IsV (.bool false), IsV (.bool false), IsV (.pointer (some ⟨w.heap.size, 1, none⟩)), IsMag k1 0, IsV (.int .i64 0), IsV (.bool true), IsV (.bool true)] [] (by decide) (by kernel_rfl) (by kernel_rfl) (by kernel_rfl) ?_ ?_ ?_ ?_
  · repeat' (first | exact trivial | exact IsV.stb _ | exact IsW.stb _ | exact IsWk.stb _ _ | exact IsI.stb _ _ | exact IsB.stb _ | exact IsR.stb _ _ | exact IsMag.stb _ _ | exact IsPos.stb | apply IsT3.stb | apply IsT2.stb | apply And.intro)
  · exact (fun _ h => by cases h)
  · refine RgAll.cons (by { (with_reducible refine RgL.mk (by rfl) ?_); intro v a w' hE hd hf; have ev0 := hf.lit 1 (.int .i64 ((k : Nat) : Int)) (by kernel_rfl) (by kernel_rfl); clear hd hf; intro K hK; go_simp; exact hK.out _ _ (Ext.refl _) rfl (FreshIf.no rfl) }) ?_
    refine RgAll.cons (by { (with_reducible refine RgL.mk (by rfl) ?_); intro v a w' hE hd hf; have d0 : v 0 = .int .i64 ((k : Nat) : Int) := hd 0 (by kernel_rfl); have ev0 := hf.val 0 16 _ d0 (by kernel_rfl) (by kernel_rfl) (by kernel_rfl); clear d0; have hx9 := HK1.out; clear hd hf; intro K hK; go_simp; exact hK.out _ _ (Ext.refl _) rfl (FreshIf.no rfl) }) ?_
    refine RgAll.cons (by { (with_reducible refine RgL.mk (by rfl) ?_); intro v a w' hE hd hf; have d0 : v 1 = .bool false := hd 1 (by kernel_rfl); have ev0 := hf.val 1 17 _ d0 (by kernel_rfl) (by kernel_rfl) (by kernel_rfl); clear d0; clear hd hf; intro K hK; go_simp; exact hK.out _ _ (Ext.refl _) rfl (FreshIf.no rfl) }) ?_
    refine RgAll.cons (by { (with_reducible refine RgL.mkG 2 18 false (by rfl) (by kernel_rfl) (by kernel_rfl) (by kernel_rfl) (by kernel_rfl) (by kernel_rfl) ?_ ?_); (focus (intro _ _ h; exact h)); intro v a w' hE hd hf; have ev0 := hf.lit 2 (.pointer (some ⟨w.heap.size, 0, none⟩)) (by kernel_rfl) (by kernel_rfl); clear hd hf; intro K hK; go_simp; exact hK.out _ _ (Ext.refl _) rfl (FreshIf.no rfl) }) ?_
    refine RgAll.cons (by { (with_reducible refine RgL.mkG 2 18 false (by rfl) (by kernel_rfl) (by kernel_rfl) (by kernel_rfl) (by kernel_rfl) (by kernel_rfl) ?_ ?_); (focus (intro _ _ h; exact h)); intro v a w' hE hd hf; have d0 : v 3 = .pointer (some ⟨w.heap.size, 1, none⟩) := hd 3 (by kernel_rfl); have ev0 := hf.val 3 19 _ d0 (by kernel_rfl) (by kernel_rfl) (by kernel_rfl); clear d0; obtain ⟨s8, a8, n8, c8, b8, h8⟩ := (S.mono hE).at 1 (w.heap.size) (IsI k1 0) rfl; have L0 := b8.c0; have L1 := b8.c1; obtain ⟨s9, a9, n9, c9, k9, h9⟩ := h8; injection k9 with k9; simp only [Array.mk.injEq, List.cons.injEq, Value.bool.injEq, Value.slice.injEq, and_true] at k9; obtain ⟨rfl, rfl, rfl, rfl⟩ := k9; clear hd hf; intro K hK; go_simp; exact hK.out _ _ (Ext.refl _) ⟨_, _, _, _, rfl, h9⟩ (FreshIf.no rfl) }) ?_
    refine RgAll.cons (by { (with_reducible refine RgL.mkG 2 18 false (by rfl) (by kernel_rfl) (by kernel_rfl) (by kernel_rfl) (by kernel_rfl) (by kernel_rfl) ?_ ?_); (focus (intro _ _ h; exact h)); intro v a w' hE hd hf; have d0 : (IsMag k1 0) (v 4) w' := hd 4 (by kernel_rfl); obtain ⟨s9, a9, n9, c9, z0, h9⟩ := d0; have ev0 := hf.val 4 20 _ z0 (by kernel_rfl) (by kernel_rfl) (by kernel_rfl); clear z0; obtain rfl : n9 = 0 := h9.zero_iff.1 (rfl); clear hd hf; intro K hK; go_simp; exact hK.out _ _ (Ext.refl _) rfl (FreshIf.no rfl) }) ?_
    refine RgAll.cons (by { (with_reducible refine RgL.mkG 2 18 false (by rfl) (by kernel_rfl) (by kernel_rfl) (by kernel_rfl) (by kernel_rfl) (by kernel_rfl) ?_ ?_); (focus (intro _ _ h; exact h)); intro v a w' hE hd hf; have d0 : v 5 = .int .i64 0 := hd 5 (by kernel_rfl); have ev0 := hf.val 5 21 _ d0 (by kernel_rfl) (by kernel_rfl) (by kernel_rfl); clear d0; clear hd hf; intro K hK; go_simp; exact hK.out _ _ (Ext.refl _) rfl (FreshIf.no rfl) }) ?_
    refine RgAll.cons (by { (with_reducible refine RgL.mk (by rfl) ?_); intro v a w' hE hd hf; have d0 : v 2 = .bool false := hd 2 (by kernel_rfl); have ev0 := hf.val 2 18 _ d0 (by kernel_rfl) (by kernel_rfl) (by kernel_rfl); clear d0; have d1 : v 6 = .bool true := hd 6 (by kernel_rfl); have ev1 := hf.val 6 22 _ d1 (by kernel_rfl) (by kernel_rfl) (by kernel_rfl); clear d1; clear hd hf; intro K hK; go_simp; exact hK.out _ _ (Ext.refl _) rfl (FreshIf.no rfl) }) ?_
    exact RgAll.nil
  intro v W2 e1 hΦ _
  replace S := S.mono e1
  have v7 : v 7 = .bool true := hΦ 7 (by decide)
  simp only [layL, Act.put, List.setIfInBounds_toArray, List.set_cons_zero, List.set_cons_succ, Nat.reduceAdd]
  rw [v7]
  clear v7
  clear hΦ
  clear e1
  refine wpList_nil ?_
  go_upto_region 4 with (fail)
  refine wp_region_rgs 1 [some 24] [IsI k1 0] [] (by decide) (by kernel_rfl) (by kernel_rfl) (by kernel_rfl) ?_ ?_ ?_ ?_
  · repeat' (first | exact trivial | exact IsV.stb _ | exact IsW.stb _ | exact IsWk.stb _ _ | exact IsI.stb _ _ | exact IsB.stb _ | exact IsR.stb _ _ | exact IsMag.stb _ _ | exact IsPos.stb | apply IsT3.stb | apply IsT2.stb | apply And.intro)
  · exact (fun _ h => by cases h)
  · refine RgAll.cons (by { (with_reducible refine RgL.mk (by rfl) ?_); intro v a w' hE hd hf; have ev0 := hf.lit 2 (.pointer (some ⟨w.heap.size, 0, none⟩)) (by kernel_rfl) (by kernel_rfl); obtain ⟨s8, a8, n8, c8, b8, h8⟩ := (S.mono hE).at 1 (w.heap.size) (IsI k1 0) rfl; have L0 := b8.c0; have L1 := b8.c1; clear hd hf; intro K hK; go_simp; exact hK.out _ _ (Ext.refl _) h8 (FreshIf.no rfl) }) ?_
    exact RgAll.nil
  intro v W3 e1 hΦ _
  replace S := S.mono e1
  obtain ⟨s24, a24, n24, c24, v0, h24⟩ := (hΦ 0 (by decide) : IsI k1 0 (v 0) W3)
  simp only [layL, Act.put, List.setIfInBounds_toArray, List.set_cons_zero, List.set_cons_succ]
  rw [v0]
  clear v0
  clear hΦ
  clear e1
  obtain ⟨s8, a8, n8, c8, b8, _⟩ := S.at 0 (w.heap.size + 1) (IsI 0 0) rfl; have F1 := b8.c0; have F2 := b8.c1; have F3 := b8.f0; have F4 := b8.f1
  refine wpList_step fun K hK => ?_; go_simp; refine hK _ _ ?_; clear hK K
  clear F1 F2 F3 F4 b8
  obtain ⟨W4, hW, S2, G2, _⟩ := S.put 0 (w.heap.size + 1) (IsI 0 0) (IsI k1 0) rfl s24 a24 n24 c24 (IsI.gstb _ _) ⟨_, _, _, _, rfl, h24⟩
  rw [← hW]; clear hW S
  have S : St w W4 [(w.heap.size + 1, IsI k1 0), (w.heap.size, IsI k1 0)] := S2; clear S2 G2
  clear h24
  refine wpList_step fun K hK => ?_; go_simp; refine hK _ _ ?_; clear hK K
  refine wpList_nil ?_
  go_wp2_with fail
  obtain ⟨rs0, ra0, rn0, rc0, rb0, rh0⟩ := S.at 0 (w.heap.size + 1) (IsI k1 0) rfl; have T0 := rb0.c0; have U0 := rb0.c1
  exact bodyPost_ret (v := .tuple #[.agg #[.bool rs0, .slice ra0 rn0 rc0], .int .i64 0]) (by simp [results, Tryz.results32, go_sem, T0, U0]) rfl (⟨_, rfl, S.ext, _, _, rfl, rh0, rfl⟩)
set_option maxRecDepth 100000 in
set_option maxHeartbeats 4000000 in
theorem RRootbig_f {k1 m : Nat} {x : Value} {w : World} (hx : IsI k1 (m : Int) x w) (l1 : k1 ≤ 1024) (k : Nat) (hk : 2 ≤ k) (hm : 0 < m) (hb : bitLen m ≤ k) :
    Calls Tryz.prog 32 #[x, .int .i64 (k : Nat)] w (Ret w (IsT2 (IsI k1 1) (IsV (.int .i64 0)))) := by
  have sz1 := hid hx.size
  obtain ⟨s1, a1, n1, c1, rfl, h1⟩ := hx
  have H0 := hid (Int.natCast_nonneg m)
  have HP := hid (show (m : Int) ≠ 0 by omega)
  have HK := hid (show decide (((k : Nat) : Int) < 1) = false by simp; omega)
  have HK1 := hid (show (((k : Nat) : Int) == 1) = false by rw [beq_eq_false_iff_ne]; omega)
  obtain ⟨b, hbb⟩ : ∃ b, b = bitLen m := ⟨_, rfl⟩
  have HB := hid (show bitLen ((m : Nat) : Int).natAbs = b by rw [Int.natAbs_natCast]; exact hbb.symm)
  have HKB := hid (show decide (b ≤ k) = true by simp; omega)
  have kpos : 0 < k1 := by
    have h := sz1.out
    rw [Int.natAbs_natCast] at h
    rcases Nat.eq_zero_or_pos k1 with h9 | h9
    · subst h9; simp at h; omega
    · exact h9
  have H1 := hid (show (1 : Int).natAbs < 4294967296 ^ k1 from Nat.one_lt_pow (by omega) (by decide))
  clear hk hm hb hbb
  obtain ⟨W, hW, S⟩ : ∃ W, W = (w.alloc (.cells #[.bool s1, .slice a1 n1 c1] 27)).alloc (.cells #[.bool false, .slice none 0 0] 27) ∧ St w W [(w.heap.size + 1, IsI 0 0), (w.heap.size, IsI k1 ((m : Int)))] := ⟨_, rfl, (((St.start w).new' (w.heap.size) (by simp) s1 a1 n1 c1 27 (IsI k1 ((m : Int))) (IsI.gstb _ _) ⟨_, _, _, _, rfl, h1⟩).new' (w.heap.size + 1) (by simp) false none 0 0 27 (IsI 0 0) (IsI.gstb _ _) (IsI.nil _ _))⟩
  clear h1
  go_enter Tryz.func32, Tryz.ntmps32
  go_upto_region 1 with (fail)
  rw [← hW]
  clear hW
  refine wp_region_rgs 6 [some 9, some 10, some 11, some 12, some 13, some 14] [IsV (.pointer (some ⟨w.heap.size, 0, none⟩)), IsV (.bool false), IsV (.bool false), IsV (.int .i64 ((k : Nat) : Int)), IsV (.bool false), IsV (.bool false)] [] (by decide) (by kernel_rfl) (by kernel_rfl) (by kernel_rfl) ?_ ?_ ?_ ?_
  · repeat' (first | exact trivial | exact IsV.stb _ | exact IsW.stb _ | exact IsWk.stb _ _ | exact IsI.stb _ _ | exact IsB.stb _ | exact IsR.stb _ _ | exact IsMag.stb _ _ | exact IsPos.stb | apply IsT3.stb | apply IsT2.stb | apply And.intro)
  · exact (fun _ h => by cases h)
  · refine RgAll.cons (by { (with_reducible refine RgL.mk (by rfl) ?_); intro v a w' hE hd hf; have ev0 := hf.lit 2 (.pointer (some ⟨w.heap.size, 0, none⟩)) (by kernel_rfl) (by kernel_rfl); clear hd hf; intro K hK; go_simp; exact hK.out _ _ (Ext.refl _) rfl (FreshIf.no rfl) }) ?_
    refine RgAll.cons (by { (with_reducible refine RgL.mk (by rfl) ?_); intro v a w' hE hd hf; have d0 : v 0 = .pointer (some ⟨w.heap.size, 0, none⟩) := hd 0 (by kernel_rfl); have ev0 := hf.val 0 9 _ d0 (by kernel_rfl) (by kernel_rfl) (by kernel_rfl); clear d0; obtain ⟨s8, a8, n8, c8, b8, h8⟩ := (S.mono hE).at 1 (w.heap.size) (IsI k1 ((m : Int))) rfl; have L0 := b8.c0; have L1 := b8.c1; obtain rfl := h8.pos' (H0.out); clear hd hf; intro K hK; go_simp; exact hK.out _ _ (Ext.refl _) rfl (FreshIf.no rfl) }) ?_
    refine RgAll.cons (by { (with_reducible refine RgL.mk (by rfl) ?_); intro v a w' hE hd hf; have d0 : v 1 = .bool false := hd 1 (by kernel_rfl); have ev0 := hf.val 1 10 _ d0 (by kernel_rfl) (by kernel_rfl) (by kernel_rfl); clear d0; clear hd hf; intro K hK; go_simp; exact hK.out _ _ (Ext.refl _) rfl (FreshIf.no rfl) }) ?_
    refine RgAll.cons (by { (with_reducible refine RgL.mkG 2 11 false (by rfl) (by kernel_rfl) (by kernel_rfl) (by kernel_rfl) (by kernel_rfl) (by kernel_rfl) ?_ ?_); (focus (intro _ _ h; exact h)); intro v a w' hE hd hf; have ev0 := hf.lit 1 (.int .i64 ((k : Nat) : Int)) (by kernel_rfl) (by kernel_rfl); clear hd hf; intro K hK; go_simp; exact hK.out _ _ (Ext.refl _) rfl (FreshIf.no rfl) }) ?_
    refine RgAll.cons (by { (with_reducible refine RgL.mkG 2 11 false (by rfl) (by kernel_rfl) (by kernel_rfl) (by kernel_rfl) (by kernel_rfl) (by kernel_rfl) ?_ ?_); (focus (intro _ _ h; exact h)); intro v a w' hE hd hf; have d0 : v 3 = .int .i64 ((k : Nat) : Int) := hd 3 (by kernel_rfl); have ev0 := hf.val 3 12 _ d0 (by kernel_rfl) (by kernel_rfl) (by kernel_rfl); clear d0; have hx9 := HK.out; clear hd hf; intro K hK; go_simp; exact hK.out _ _ (Ext.refl _) rfl (FreshIf.no rfl) }) ?_
    refine RgAll.cons (by { (with_reducible refine RgL.mk (by rfl) ?_); intro v a w' hE hd hf; have d0 : v 2 = .bool false := hd 2 (by kernel_rfl); have ev0 := hf.val 2 11 _ d0 (by kernel_rfl) (by kernel_rfl) (by kernel_rfl); clear d0; have d1 : v 4 = .bool false := hd 4 (by kernel_rfl); have ev1 := hf.val 4 13 _ d1 (by kernel_rfl) (by kernel_rfl) (by kernel_rfl); clear d1; clear hd hf; intro K hK; go_simp; exact hK.out _ _ (Ext.refl _) rfl (FreshIf.no rfl) }) ?_
    exact RgAll.nil
  intro v W1 e1 hΦ _
  replace S := S.mono e1
  have v5 : v 5 = .bool false := hΦ 5 (by decide)
  simp only [layL, Act.put, List.setIfInBounds_toArray, List.set_cons_zero, List.set_cons_succ, Nat.reduceAdd]
  rw [v5]
  clear v5
  clear hΦ
  clear e1
  refine wpList_nil ?_
  go_upto_region 3 with (fail)
  refine wp_region_rgs 8 [some 16, some 17, some 18, some 19, some 20, some 21, some 22, some 23] [IsV (.int .i64 ((k : Nat) : Int)), IsV (.bool false), IsV (.bool false), IsV (.pointer (some ⟨w.heap.size, 1, none⟩)), IsMag k1 ((m : Int)), IsPos, IsV (.bool false), IsV (.bool false)] [] (by decide) (by kernel_rfl) (by kernel_rfl) (by kernel_rfl) ?_ ?_ ?_ ?_
  · repeat' (first | exact trivial | exact IsV.stb _ | exact IsW.stb _ | exact IsWk.stb _ _ | exact IsI.stb _ _ | exact IsB.stb _ | exact IsR.stb _ _ | exact IsMag.stb _ _ | exact IsPos.stb | apply IsT3.stb | apply IsT2.stb | apply And.intro)
  · exact (fun _ h => by cases h)
  · refine RgAll.cons (by { (with_reducible refine RgL.mk (by rfl) ?_); intro v a w' hE hd hf; have ev0 := hf.lit 1 (.int .i64 ((k : Nat) : Int)) (by kernel_rfl) (by kernel_rfl); clear hd hf; intro K hK; go_simp; exact hK.out _ _ (Ext.refl _) rfl (FreshIf.no rfl) }) ?_
    refine RgAll.cons (by { (with_reducible refine RgL.mk (by rfl) ?_); intro v a w' hE hd hf; have d0 : v 0 = .int .i64 ((k : Nat) : Int) := hd 0 (by kernel_rfl); have ev0 := hf.val 0 16 _ d0 (by kernel_rfl) (by kernel_rfl) (by kernel_rfl); clear d0; have hx9 := HK1.out; clear hd hf; intro K hK; go_simp; exact hK.out _ _ (Ext.refl _) rfl (FreshIf.no rfl) }) ?_
    refine RgAll.cons (by { (with_reducible refine RgL.mk (by rfl) ?_); intro v a w' hE hd hf; have d0 : v 1 = .bool false := hd 1 (by kernel_rfl); have ev0 := hf.val 1 17 _ d0 (by kernel_rfl) (by kernel_rfl) (by kernel_rfl); clear d0; clear hd hf; intro K hK; go_simp; exact hK.out _ _ (Ext.refl _) rfl (FreshIf.no rfl) }) ?_
    refine RgAll.cons (by { (with_reducible refine RgL.mkG 2 18 false (by rfl) (by kernel_rfl) (by kernel_rfl) (by kernel_rfl) (by kernel_rfl) (by kernel_rfl) ?_ ?_); (focus (intro _ _ h; exact h)); intro v a w' hE hd hf; have ev0 := hf.lit 2 (.pointer (some ⟨w.heap.size, 0, none⟩)) (by kernel_rfl) (by kernel_rfl); clear hd hf; intro K hK; go_simp; exact hK.out _ _ (Ext.refl _) rfl (FreshIf.no rfl) }) ?_
    refine RgAll.cons (by { (with_reducible refine RgL.mkG 2 18 false (by rfl) (by kernel_rfl) (by kernel_rfl) (by kernel_rfl) (by kernel_rfl) (by kernel_rfl) ?_ ?_); (focus (intro _ _ h; exact h)); intro v a w' hE hd hf; have d0 : v 3 = .pointer (some ⟨w.heap.size, 1, none⟩) := hd 3 (by kernel_rfl); have ev0 := hf.val 3 19 _ d0 (by kernel_rfl) (by kernel_rfl) (by kernel_rfl); clear d0; obtain ⟨s8, a8, n8, c8, b8, h8⟩ := (S.mono hE).at 1 (w.heap.size) (IsI k1 ((m : Int))) rfl; have L0 := b8.c0; have L1 := b8.c1; obtain ⟨s9, a9, n9, c9, k9, h9⟩ := h8; injection k9 with k9; simp only [Array.mk.injEq, List.cons.injEq, Value.bool.injEq, Value.slice.injEq, and_true] at k9; obtain ⟨rfl, rfl, rfl, rfl⟩ := k9; clear hd hf; intro K hK; go_simp; exact hK.out _ _ (Ext.refl _) ⟨_, _, _, _, rfl, h9⟩ (FreshIf.no rfl) }) ?_
    refine RgAll.cons (by { (with_reducible refine RgL.mkG 2 18 false (by rfl) (by kernel_rfl) (by kernel_rfl) (by kernel_rfl) (by kernel_rfl) (by kernel_rfl) ?_ ?_); (focus (intro _ _ h; exact h)); intro v a w' hE hd hf; have d0 : (IsMag k1 ((m : Int))) (v 4) w' := hd 4 (by kernel_rfl); obtain ⟨s9, a9, n9, c9, z0, h9⟩ := d0; have ev0 := hf.val 4 20 _ z0 (by kernel_rfl) (by kernel_rfl) (by kernel_rfl); clear z0; clear hd hf; intro K hK; go_simp; exact hK.out _ _ (Ext.refl _) ⟨n9, rfl, Nat.pos_of_ne_zero (fun h0 => (HP.out) (h9.zero_iff.2 h0)), h9.len⟩ (FreshIf.no rfl) }) ?_
    refine RgAll.cons (by { (with_reducible refine RgL.mkG 2 18 false (by rfl) (by kernel_rfl) (by kernel_rfl) (by kernel_rfl) (by kernel_rfl) (by kernel_rfl) ?_ ?_); (focus (intro _ _ h; exact h)); intro v a w' hE hd hf; have d0 : IsPos (v 5) w' := hd 5 (by kernel_rfl); obtain ⟨n9, z0, p9, q9⟩ := d0; have ev0 := hf.val 5 21 _ z0 (by kernel_rfl) (by kernel_rfl) (by kernel_rfl); clear z0; have hb9 : ((n9 : Int) == 0) = false := (by rw [beq_eq_false_iff_ne]; omega); have hb8 : decide ((0 : Int) < (n9 : Int)) = true := (by simp; omega); have hb7 : decide (0 < n9) = true := (by simp; omega); have hb6 : (n9 == 0) = false := (by rw [beq_eq_false_iff_ne]; omega); clear hd hf; intro K hK; go_simp; exact hK.out _ _ (Ext.refl _) rfl (FreshIf.no rfl) }) ?_
    refine RgAll.cons (by { (with_reducible refine RgL.mk (by rfl) ?_); intro v a w' hE hd hf; have d0 : v 2 = .bool false := hd 2 (by kernel_rfl); have ev0 := hf.val 2 18 _ d0 (by kernel_rfl) (by kernel_rfl) (by kernel_rfl); clear d0; have d1 : v 6 = .bool false := hd 6 (by kernel_rfl); have ev1 := hf.val 6 22 _ d1 (by kernel_rfl) (by kernel_rfl) (by kernel_rfl); clear d1; clear hd hf; intro K hK; go_simp; exact hK.out _ _ (Ext.refl _) rfl (FreshIf.no rfl) }) ?_
    exact RgAll.nil
  intro v W2 e1 hΦ _
  replace S := S.mono e1
  have v7 : v 7 = .bool false := hΦ 7 (by decide)
  simp only [layL, Act.put, List.setIfInBounds_toArray, List.set_cons_zero, List.set_cons_succ, Nat.reduceAdd]
  rw [v7]
  clear v7
  clear hΦ
  clear e1
  refine wpList_nil ?_
  go_upto_region 5 with (fail)
  refine wp_region_rgs 4 [some 25, some 26, some 27, some 28] [IsV (.int .i64 ((k : Nat) : Int)), IsI k1 ((m : Int)), IsV (.int .i64 (b : Nat)), IsV (.bool true)] [] (by decide) (by kernel_rfl) (by kernel_rfl) (by kernel_rfl) ?_ ?_ ?_ ?_
  · repeat' (first | exact trivial | exact IsV.stb _ | exact IsW.stb _ | exact IsWk.stb _ _ | exact IsI.stb _ _ | exact IsB.stb _ | exact IsR.stb _ _ | exact IsMag.stb _ _ | exact IsPos.stb | apply IsT3.stb | apply IsT2.stb | apply And.intro)
  · exact (fun _ h => by cases h)
  · refine RgAll.cons (by { (with_reducible refine RgL.mk (by rfl) ?_); intro v a w' hE hd hf; have ev0 := hf.lit 1 (.int .i64 ((k : Nat) : Int)) (by kernel_rfl) (by kernel_rfl); clear hd hf; intro K hK; go_simp; exact hK.out _ _ (Ext.refl _) rfl (FreshIf.no rfl) }) ?_
    refine RgAll.cons (by { (with_reducible refine RgL.mk (by rfl) ?_); intro v a w' hE hd hf; have ev0 := hf.lit 2 (.pointer (some ⟨w.heap.size, 0, none⟩)) (by kernel_rfl) (by kernel_rfl); obtain ⟨s8, a8, n8, c8, b8, h8⟩ := (S.mono hE).at 1 (w.heap.size) (IsI k1 ((m : Int))) rfl; have L0 := b8.c0; have L1 := b8.c1; clear hd hf; intro K hK; go_simp; exact hK.out _ _ (Ext.refl _) h8 (FreshIf.no rfl) }) ?_
    refine RgAll.cons (by { (with_reducible refine RgL.mk (by rfl) ?_); intro v a w' hE hd hf; have d0 : (IsI k1 ((m : Int))) (v 1) w' := hd 1 (by kernel_rfl); have ev0 := hf.val 1 26 _ rfl (by kernel_rfl) (by kernel_rfl) (by kernel_rfl); clear hd hf; intro K hK; go_simp; go_at_call 28; go_split_ands; (with_reducible refine Calls.mono ((by have hh := RBits_f d0 (by omega); rw [HB.out] at hh; exact hh)) ?_); rintro e w2 ⟨x, rfl, e2, hx⟩; exact hK.out _ _ e2 hx (FreshIf.no rfl) }) ?_
    refine RgAll.cons (by { (with_reducible refine RgL.mk (by rfl) ?_); intro v a w' hE hd hf; have d0 : v 0 = .int .i64 ((k : Nat) : Int) := hd 0 (by kernel_rfl); have ev0 := hf.val 0 25 _ d0 (by kernel_rfl) (by kernel_rfl) (by kernel_rfl); clear d0; have d1 : v 2 = .int .i64 (b : Nat) := hd 2 (by kernel_rfl); have ev1 := hf.val 2 27 _ d1 (by kernel_rfl) (by kernel_rfl) (by kernel_rfl); clear d1; have hx9 := HKB.out; clear hd hf; intro K hK; go_simp; exact hK.out _ _ (Ext.refl _) rfl (FreshIf.no rfl) }) ?_
    exact RgAll.nil
  intro v W3 e1 hΦ _
  replace S := S.mono e1
  have v3 : v 3 = .bool true := hΦ 3 (by decide)
  simp only [layL, Act.put, List.setIfInBounds_toArray, List.set_cons_zero, List.set_cons_succ, Nat.reduceAdd]
  rw [v3]
  clear v3
  clear hΦ
  clear e1
  refine wpList_nil ?_
  go_upto_region 6 with (fail)
  refine wp_region_rgs 1 [some 29] [IsI k1 1] [] (by decide) (by kernel_rfl) (by kernel_rfl) (by kernel_rfl) ?_ ?_ ?_ ?_
  · repeat' (first | exact trivial | exact IsV.stb _ | exact IsW.stb _ | exact IsWk.stb _ _ | exact IsI.stb _ _ | exact IsB.stb _ | exact IsR.stb _ _ | exact IsMag.stb _ _ | exact IsPos.stb | apply IsT3.stb | apply IsT2.stb | apply And.intro)
  · exact (fun _ h => by cases h)
  · refine RgAll.cons (by { (with_reducible refine RgL.mk (by rfl) ?_); intro v a w' hE hd hf; skip; clear hd hf; intro K hK; go_simp; go_at_call 35; go_split_ands; (with_reducible refine Calls.mono (Calls.mono (ROf_f _ 1 (by decide) (by decide)) fun _ _ h => h.mono fun _ _ h => h.tight (k' := k1) H1.out) ?_); rintro e w2 ⟨x, rfl, e2, hx⟩; exact hK.out _ _ e2 hx (FreshIf.no rfl) }) ?_
    exact RgAll.nil
  intro v W4 e1 hΦ _
  replace S := S.mono e1
  obtain ⟨s29, a29, n29, c29, v0, h29⟩ := (hΦ 0 (by decide) : IsI k1 1 (v 0) W4)
  simp only [layL, Act.put, List.setIfInBounds_toArray, List.set_cons_zero, List.set_cons_succ]
  rw [v0]
  clear v0
  clear hΦ
  clear e1
  obtain ⟨s8, a8, n8, c8, b8, _⟩ := S.at 0 (w.heap.size + 1) (IsI 0 0) rfl; have F1 := b8.c0; have F2 := b8.c1; have F3 := b8.f0; have F4 := b8.f1
  refine wpList_step fun K hK => ?_; go_simp; refine hK _ _ ?_; clear hK K
  clear F1 F2 F3 F4 b8
  obtain ⟨W5, hW, S2, G2, _⟩ := S.put 0 (w.heap.size + 1) (IsI 0 0) (IsI k1 1) rfl s29 a29 n29 c29 (IsI.gstb _ _) ⟨_, _, _, _, rfl, h29⟩
  rw [← hW]; clear hW S
  have S : St w W5 [(w.heap.size + 1, IsI k1 1), (w.heap.size, IsI k1 ((m : Int)))] := S2; clear S2 G2
  clear h29
  refine wpList_step fun K hK => ?_; go_simp; refine hK _ _ ?_; clear hK K
  refine wpList_nil ?_
  go_wp2_with fail
  obtain ⟨rs0, ra0, rn0, rc0, rb0, rh0⟩ := S.at 0 (w.heap.size + 1) (IsI k1 1) rfl; have T0 := rb0.c0; have U0 := rb0.c1
  exact bodyPost_ret (v := .tuple #[.agg #[.bool rs0, .slice ra0 rn0 rc0], .int .i64 0]) (by simp [results, Tryz.results32, go_sem, T0, U0]) rfl (⟨_, rfl, S.ext, _, _, rfl, rh0, rfl⟩)
set_option maxRecDepth 100000 in
set_option maxHeartbeats 4000000 in
theorem RRootm_f {k1 m : Nat} {x : Value} {w : World} (hx : IsI k1 (m : Int) x w) (l1 : k1 ≤ 1024) (k : Nat) (hk : 2 ≤ k) (hm : 0 < m) (hb : k < bitLen m) (r : Nat) (hr : IsRoot m k r) :
    Calls Tryz.prog 32 #[x, .int .i64 (k : Nat)] w (Ret w (IsT2 (IsI k1 (r : Int)) (IsV (.int .i64 0)))) := by
  have sz1 := hid hx.size
  obtain ⟨s1, a1, n1, c1, rfl, h1⟩ := hx
  have H0 := hid (Int.natCast_nonneg m)
  have HP := hid (show (m : Int) ≠ 0 by omega)
  have HK := hid (show decide (((k : Nat) : Int) < 1) = false by simp; omega)
  have HK0 := hid (show ¬ ((k : Nat) : Int) = 0 by omega)
  have HK00 := hid (show ¬ k = 0 by omega)
  have HK1 := hid (show (((k : Nat) : Int) == 1) = false by rw [beq_eq_false_iff_ne]; omega)
  have HR := hid hr
  have HRM := hid (show r ≤ m from hr.le (by omega))
  obtain ⟨b, hbb⟩ : ∃ b, b = bitLen m := ⟨_, rfl⟩
  have HB := hid (show bitLen ((m : Nat) : Int).natAbs = b by rw [Int.natAbs_natCast]; exact hbb.symm)
  have hbl : b ≤ 32 * k1 := by
    have h := sz1.out
    rw [Int.natAbs_natCast] at h
    rw [hbb]; exact bitLen_le m k1 h
  rw [← hbb] at hb
  have HKB := hid (show decide (b ≤ k) = false by simp; omega)
  obtain ⟨q, hq⟩ : ∃ q, q = (b - 1) / k := ⟨_, rfl⟩
  have hqb : q ≤ b - 1 := by rw [hq]; exact Nat.div_le_self _ _
  have HW1 := hid (show IntKind.i64.wrap ((b : Int) - 1) = (b : Int) - 1 by simp only [IntKind.wrap_i64]; omega)
  have HQ := hid (show ((b : Int) - 1) / (k : Int) = (q : Int) ∧ ((b : Int) - 1).tdiv (k : Int) = (q : Int) by
    rw [Int.tdiv_eq_ediv_of_nonneg (by omega), show ((b : Int) - 1) = ((b - 1 : Nat) : Int) by omega, hq]
    exact ⟨by simp, by simp⟩)
  have HQW := hid (show IntKind.i64.wrap (q : Int) = (q : Int) by simp only [IntKind.wrap_i64]; omega)
  have HQL := hid (show q ≤ 32 * k1 by omega)
  obtain ⟨j, hj1, hj2, hj3⟩ := bitLen_bounds m (by omega)
  have HQM := hid (show 2 ^ q ≤ m from Nat.le_trans (Nat.pow_le_pow_right (by decide) (by omega)) hj2)
  have HR0 := hid (show 0 ≤ r ∧ r < 0 + 2 ^ (q + 1) from ⟨Nat.zero_le _, by
    rw [Nat.zero_add]
    rcases Nat.lt_or_ge r (2 ^ (q + 1)) with h | h
    · exact h
    · exfalso
      have h1 : (2 ^ (q + 1)) ^ k ≤ r ^ k := Nat.pow_le_pow_left h k
      rw [← Nat.pow_mul] at h1
      have h2 : b - 1 < (q + 1) * k := by
        have h9 := Nat.div_add_mod (b - 1) k; have h8 := Nat.mod_lt (b - 1) (show 0 < k by omega); rw [← hq] at h9; rw [Nat.add_mul, Nat.one_mul, Nat.mul_comm]; omega
      have h3 : 2 ^ (j + 1) ≤ 2 ^ ((q + 1) * k) := Nat.pow_le_pow_right (by decide) (by omega)
      have := hr.1
      omega⟩)
  have HKK := hid (show (k1 + 1) * k ≤ 134217728 ∧ k ≤ 9223372036854775807 from ⟨Nat.le_trans (Nat.mul_le_mul (show k1 + 1 ≤ 1025 by omega) (show k ≤ 32768 by omega)) (by decide), by omega⟩)
  have HRS := hid (show ((r : Nat) : Int).natAbs < 4294967296 ^ k1 by rw [Int.natAbs_natCast]; have h := sz1.out; rw [Int.natAbs_natCast] at h; have := HRM.out; omega)
  clear hk hm hb hbb hr hq hj1 hj2 hj3
  obtain ⟨W, hW, S⟩ : ∃ W, W = (w.alloc (.cells #[.bool s1, .slice a1 n1 c1] 27)).alloc (.cells #[.bool false, .slice none 0 0] 27) ∧ St w W [(w.heap.size + 1, IsI 0 0), (w.heap.size, IsI k1 ((m : Int)))] := ⟨_, rfl, (((St.start w).new' (w.heap.size) (by simp) s1 a1 n1 c1 27 (IsI k1 ((m : Int))) (IsI.gstb _ _) ⟨_, _, _, _, rfl, h1⟩).new' (w.heap.size + 1) (by simp) false none 0 0 27 (IsI 0 0) (IsI.gstb _ _) (IsI.nil _ _))⟩
  clear h1
  go_enter Tryz.func32, Tryz.ntmps32
  go_upto_region 1 with (fail)
  rw [← hW]
  clear hW
  refine wp_region_rgs 6 [some 9, some 10, some 11, some 12, some 13, some 14] [IsV (.pointer (some ⟨w.heap.size, 0, none⟩)), IsV (.bool false), IsV (.bool false), IsV (.int .i64 ((k : Nat) : Int)), IsV (.bool false), IsV (.bool false)] [] (by decide) (by kernel_rfl) (by kernel_rfl) (by kernel_rfl) ?_ ?_ ?_ ?_
  · repeat' (first | exact trivial | exact IsV.stb _ | exact IsW.stb _ | exact IsWk.stb _ _ | exact IsI.stb _ _ | exact IsB.stb _ | exact IsR.stb _ _ | exact IsMag.stb _ _ | exact IsPos.stb | apply IsT3.stb | apply IsT2.stb | apply And.intro)
  · exact (fun _ h => by cases h)
  · refine RgAll.cons (by { (with_reducible refine RgL.mk (by rfl) ?_); intro v a w' hE hd hf; have ev0 := hf.lit 2 (.pointer (some ⟨w.heap.size, 0, none⟩)) (by kernel_rfl) (by kernel_rfl); clear hd hf; intro K hK; go_simp; exact hK.out _ _ (Ext.refl _) rfl (FreshIf.no rfl) }) ?_
    refine RgAll.cons (by { (with_reducible refine RgL.mk (by rfl) ?_); intro v a w' hE hd hf; have d0 : v 0 = .pointer (some ⟨w.heap.size, 0, none⟩) := hd 0 (by kernel_rfl); have ev0 := hf.val 0 9 _ d0 (by kernel_rfl) (by kernel_rfl) (by kernel_rfl); clear d0; obtain ⟨s8, a8, n8, c8, b8, h8⟩ := (S.mono hE).at 1 (w.heap.size) (IsI k1 ((m : Int))) rfl; have L0 := b8.c0; have L1 := b8.c1; obtain rfl := h8.pos' (H0.out); clear hd hf; intro K hK; go_simp; exact hK.out _ _ (Ext.refl _) rfl (FreshIf.no rfl) }) ?_
    refine RgAll.cons (by { (with_reducible refine RgL.mk (by rfl) ?_); intro v a w' hE hd hf; have d0 : v 1 = .bool false := hd 1 (by kernel_rfl); have ev0 := hf.val 1 10 _ d0 (by kernel_rfl) (by kernel_rfl) (by kernel_rfl); clear d0; clear hd hf; intro K hK; go_simp; exact hK.out _ _ (Ext.refl _) rfl (FreshIf.no rfl) }) ?_
    refine RgAll.cons (by { (with_reducible refine RgL.mkG 2 11 false (by rfl) (by kernel_rfl) (by kernel_rfl) (by kernel_rfl) (by kernel_rfl) (by kernel_rfl) ?_ ?_); (focus (intro _ _ h; exact h)); intro v a w' hE hd hf; have ev0 := hf.lit 1 (.int .i64 ((k : Nat) : Int)) (by kernel_rfl) (by kernel_rfl); clear hd hf; intro K hK; go_simp; exact hK.out _ _ (Ext.refl _) rfl (FreshIf.no rfl) }) ?_
    refine RgAll.cons (by { (with_reducible refine RgL.mkG 2 11 false (by rfl) (by kernel_rfl) (by kernel_rfl) (by kernel_rfl) (by kernel_rfl) (by kernel_rfl) ?_ ?_); (focus (intro _ _ h; exact h)); intro v a w' hE hd hf; have d0 : v 3 = .int .i64 ((k : Nat) : Int) := hd 3 (by kernel_rfl); have ev0 := hf.val 3 12 _ d0 (by kernel_rfl) (by kernel_rfl) (by kernel_rfl); clear d0; have hx9 := HK.out; clear hd hf; intro K hK; go_simp; exact hK.out _ _ (Ext.refl _) rfl (FreshIf.no rfl) }) ?_
    refine RgAll.cons (by { (with_reducible refine RgL.mk (by rfl) ?_); intro v a w' hE hd hf; have d0 : v 2 = .bool false := hd 2 (by kernel_rfl); have ev0 := hf.val 2 11 _ d0 (by kernel_rfl) (by kernel_rfl) (by kernel_rfl); clear d0; have d1 : v 4 = .bool false := hd 4 (by kernel_rfl); have ev1 := hf.val 4 13 _ d1 (by kernel_rfl) (by kernel_rfl) (by kernel_rfl); clear d1; clear hd hf; intro K hK; go_simp; exact hK.out _ _ (Ext.refl _) rfl (FreshIf.no rfl) }) ?_
    exact RgAll.nil
  intro v W1 e1 hΦ _
  replace S := S.mono e1
  have v5 : v 5 = .bool false := hΦ 5 (by decide)
  simp only [layL, Act.put, List.setIfInBounds_toArray, List.set_cons_zero, List.set_cons_succ, Nat.reduceAdd]
  rw [v5]
  clear v5
  clear hΦ
  clear e1
  refine wpList_nil ?_
  go_upto_region 3 with (fail)
  refine wp_region_rgs 8 [some 16, some 17, some 18, some 19, some 20, some 21, some 22, some 23] [IsV (.int .i64 ((k : Nat) : Int)), IsV (.bool false), IsV (.bool false), IsV (.pointer (some ⟨w.heap.size, 1, none⟩)), IsMag k1 ((m : Int)), IsPos, IsV (.bool false), IsV (.bool false)] [] (by decide) (by kernel_rfl) (by kernel_rfl) (by kernel_rfl) ?_ ?_ ?_ ?_
  · repeat' (first | exact trivial | exact IsV.stb _ | exact IsW.stb _ | exact IsWk.stb _ _ | exact IsI.stb _ _ | exact IsB.stb _ | exact IsR.stb _ _ | exact IsMag.stb _ _ | exact IsPos.stb | apply IsT3.stb | apply IsT2.stb | apply And.intro)
  · exact (fun _ h => by cases h)
  · refine RgAll.cons (by { (with_reducible refine RgL.mk (by rfl) ?_); intro v a w' hE hd hf; have ev0 := hf.lit 1 (.int .i64 ((k : Nat) : Int)) (by kernel_rfl) (by kernel_rfl); clear hd hf; intro K hK; go_simp; exact hK.out _ _ (Ext.refl _) rfl (FreshIf.no rfl) }) ?_
    refine RgAll.cons (by { (with_reducible refine RgL.mk (by rfl) ?_); intro v a w' hE hd hf; have d0 : v 0 = .int .i64 ((k : Nat) : Int) := hd 0 (by kernel_rfl); have ev0 := hf.val 0 16 _ d0 (by kernel_rfl) (by kernel_rfl) (by kernel_rfl); clear d0; have hx9 := HK1.out; clear hd hf; intro K hK; go_simp; exact hK.out _ _ (Ext.refl _) rfl (FreshIf.no rfl) }) ?_
    refine RgAll.cons (by { (with_reducible refine RgL.mk (by rfl) ?_); intro v a w' hE hd hf; have d0 : v 1 = .bool false := hd 1 (by kernel_rfl); have ev0 := hf.val 1 17 _ d0 (by kernel_rfl) (by kernel_rfl) (by kernel_rfl); clear d0; clear hd hf; intro K hK; go_simp; exact hK.out _ _ (Ext.refl _) rfl (FreshIf.no rfl) }) ?_
    refine RgAll.cons (by { (with_reducible refine RgL.mkG 2 18 false (by rfl) (by kernel_rfl) (by kernel_rfl) (by kernel_rfl) (by kernel_rfl) (by kernel_rfl) ?_ ?_); (focus (intro _ _ h; exact h)); intro v a w' hE hd hf; have ev0 := hf.lit 2 (.pointer (some ⟨w.heap.size, 0, none⟩)) (by kernel_rfl) (by kernel_rfl); clear hd hf; intro K hK; go_simp; exact hK.out _ _ (Ext.refl _) rfl (FreshIf.no rfl) }) ?_
    refine RgAll.cons (by { (with_reducible refine RgL.mkG 2 18 false (by rfl) (by kernel_rfl) (by kernel_rfl) (by kernel_rfl) (by kernel_rfl) (by kernel_rfl) ?_ ?_); (focus (intro _ _ h; exact h)); intro v a w' hE hd hf; have d0 : v 3 = .pointer (some ⟨w.heap.size, 1, none⟩) := hd 3 (by kernel_rfl); have ev0 := hf.val 3 19 _ d0 (by kernel_rfl) (by kernel_rfl) (by kernel_rfl); clear d0; obtain ⟨s8, a8, n8, c8, b8, h8⟩ := (S.mono hE).at 1 (w.heap.size) (IsI k1 ((m : Int))) rfl; have L0 := b8.c0; have L1 := b8.c1; obtain ⟨s9, a9, n9, c9, k9, h9⟩ := h8; injection k9 with k9; simp only [Array.mk.injEq, List.cons.injEq, Value.bool.injEq, Value.slice.injEq, and_true] at k9; obtain ⟨rfl, rfl, rfl, rfl⟩ := k9; clear hd hf; intro K hK; go_simp; exact hK.out _ _ (Ext.refl _) ⟨_, _, _, _, rfl, h9⟩ (FreshIf.no rfl) }) ?_
    refine RgAll.cons (by { (with_reducible refine RgL.mkG 2 18 false (by rfl) (by kernel_rfl) (by kernel_rfl) (by kernel_rfl) (by kernel_rfl) (by kernel_rfl) ?_ ?_); (focus (intro _ _ h; exact h)); intro v a w' hE hd hf; have d0 : (IsMag k1 ((m : Int))) (v 4) w' := hd 4 (by kernel_rfl); obtain ⟨s9, a9, n9, c9, z0, h9⟩ := d0; have ev0 := hf.val 4 20 _ z0 (by kernel_rfl) (by kernel_rfl) (by kernel_rfl); clear z0; clear hd hf; intro K hK; go_simp; exact hK.out _ _ (Ext.refl _) ⟨n9, rfl, Nat.pos_of_ne_zero (fun h0 => (HP.out) (h9.zero_iff.2 h0)), h9.len⟩ (FreshIf.no rfl) }) ?_
    refine RgAll.cons (by { (with_reducible refine RgL.mkG 2 18 false (by rfl) (by kernel_rfl) (by kernel_rfl) (by kernel_rfl) (by kernel_rfl) (by kernel_rfl) ?_ ?_); (focus (intro _ _ h; exact h)); intro v a w' hE hd hf; have d0 : IsPos (v 5) w' := hd 5 (by kernel_rfl); obtain ⟨n9, z0, p9, q9⟩ := d0; have ev0 := hf.val 5 21 _ z0 (by kernel_rfl) (by kernel_rfl) (by kernel_rfl); clear z0; have hb9 : ((n9 : Int) == 0) = false := (by rw [beq_eq_false_iff_ne]; omega); have hb8 : decide ((0 : Int) < (n9 : Int)) = true := (by simp; omega); have hb7 : decide (0 < n9) = true := (by simp; omega); have hb6 : (n9 == 0) = false := (by rw [beq_eq_false_iff_ne]; omega); clear hd hf; intro K hK; go_simp; exact hK.out _ _ (Ext.refl _) rfl (FreshIf.no rfl) }) ?_
    refine RgAll.cons (by { (with_reducible refine RgL.mk (by rfl) ?_); intro v a w' hE hd hf; have d0 : v 2 = .bool false := hd 2 (by kernel_rfl); have ev0 := hf.val 2 18 _ d0 (by kernel_rfl) (by kernel_rfl) (by kernel_rfl); clear d0; have d1 : v 6 = .bool false := hd 6 (by kernel_rfl); have ev1 := hf.val 6 22 _ d1 (by kernel_rfl) (by kernel_rfl) (by kernel_rfl); clear d1; clear hd hf; intro K hK; go_simp; exact hK.out _ _ (Ext.refl _) rfl (FreshIf.no rfl) }) ?_
    exact RgAll.nil
  intro v W2 e1 hΦ _
  replace S := S.mono e1
  have v7 : v 7 = .bool false := hΦ 7 (by decide)
  simp only [layL, Act.put, List.setIfInBounds_toArray, List.set_cons_zero, List.set_cons_succ, Nat.reduceAdd]
  rw [v7]
  clear v7
  clear hΦ
  clear e1
  refine wpList_nil ?_
  go_upto_region 5 with (fail)
  refine wp_region_rgs 4 [some 25, some 26, some 27, some 28] [IsV (.int .i64 ((k : Nat) : Int)), IsI k1 ((m : Int)), IsV (.int .i64 (b : Nat)), IsV (.bool false)] [] (by decide) (by kernel_rfl) (by kernel_rfl) (by kernel_rfl) ?_ ?_ ?_ ?_
  · repeat' (first | exact trivial | exact IsV.stb _ | exact IsW.stb _ | exact IsWk.stb _ _ | exact IsI.stb _ _ | exact IsB.stb _ | exact IsR.stb _ _ | exact IsMag.stb _ _ | exact IsPos.stb | apply IsT3.stb | apply IsT2.stb | apply And.intro)
  · exact (fun _ h => by cases h)
  · refine RgAll.cons (by { (with_reducible refine RgL.mk (by rfl) ?_); intro v a w' hE hd hf; have ev0 := hf.lit 1 (.int .i64 ((k : Nat) : Int)) (by kernel_rfl) (by kernel_rfl); clear hd hf; intro K hK; go_simp; exact hK.out _ _ (Ext.refl _) rfl (FreshIf.no rfl) }) ?_
    refine RgAll.cons (by { (with_reducible refine RgL.mk (by rfl) ?_); intro v a w' hE hd hf; have ev0 := hf.lit 2 (.pointer (some ⟨w.heap.size, 0, none⟩)) (by kernel_rfl) (by kernel_rfl); obtain ⟨s8, a8, n8, c8, b8, h8⟩ := (S.mono hE).at 1 (w.heap.size) (IsI k1 ((m : Int))) rfl; have L0 := b8.c0; have L1 := b8.c1; clear hd hf; intro K hK; go_simp; exact hK.out _ _ (Ext.refl _) h8 (FreshIf.no rfl) }) ?_
    refine RgAll.cons (by { (with_reducible refine RgL.mk (by rfl) ?_); intro v a w' hE hd hf; have d0 : (IsI k1 ((m : Int))) (v 1) w' := hd 1 (by kernel_rfl); have ev0 := hf.val 1 26 _ rfl (by kernel_rfl) (by kernel_rfl) (by kernel_rfl); clear hd hf; intro K hK; go_simp; go_at_call 28; go_split_ands; (with_reducible refine Calls.mono ((by have hh := RBits_f d0 (by omega); rw [HB.out] at hh; exact hh)) ?_); rintro e w2 ⟨x, rfl, e2, hx⟩; exact hK.out _ _ e2 hx (FreshIf.no rfl) }) ?_
    refine RgAll.cons (by { (with_reducible refine RgL.mk (by rfl) ?_); intro v a w' hE hd hf; have d0 : v 0 = .int .i64 ((k : Nat) : Int) := hd 0 (by kernel_rfl); have ev0 := hf.val 0 25 _ d0 (by kernel_rfl) (by kernel_rfl) (by kernel_rfl); clear d0; have d1 : v 2 = .int .i64 (b : Nat) := hd 2 (by kernel_rfl); have ev1 := hf.val 2 27 _ d1 (by kernel_rfl) (by kernel_rfl) (by kernel_rfl); clear d1; have hx9 := HKB.out; clear hd hf; intro K hK; go_simp; exact hK.out _ _ (Ext.refl _) rfl (FreshIf.no rfl) }) ?_
    exact RgAll.nil
  intro v W3 e1 hΦ _
  replace S := S.mono e1
  have v3 : v 3 = .bool false := hΦ 3 (by decide)
  simp only [layL, Act.put, List.setIfInBounds_toArray, List.set_cons_zero, List.set_cons_succ, Nat.reduceAdd]
  rw [v3]
  clear v3
  clear hΦ
  clear e1
  refine wpList_nil ?_
  go_upto_region 7 with (fail)
  have hl := hid S.lt; have hw := S.ext.size
  refine wp_region_rgs 2 [some 30, some 6] [IsI (k1 + 1) 0, IsB W3] [1] (by decide) (by kernel_rfl) (by kernel_rfl) (by kernel_rfl) ?_ ?_ ?_ ?_
  · repeat' (first | exact trivial | exact IsV.stb _ | exact IsW.stb _ | exact IsWk.stb _ _ | exact IsI.stb _ _ | exact IsB.stb _ | exact IsR.stb _ _ | exact IsMag.stb _ _ | exact IsPos.stb | apply IsT3.stb | apply IsT2.stb | apply And.intro)
  · intro i hi; simp only [List.mem_cons, List.not_mem_nil, or_false] at hi; subst hi; exact IsB.box _
  · refine RgAll.cons (by { (with_reducible refine RgL.mk (by rfl) ?_); intro v a w' hE hd hf; skip; clear hd hf; intro K hK; go_simp; exact hK.out _ _ (Ext.refl _) (IsI.nil _ _) (FreshIf.no rfl) }) ?_
    refine RgAll.cons (by { (with_reducible refine RgL.mk (by rfl) ?_); intro v a w' hE hd hf; skip; clear hd hf; intro K hK; go_simp; refine hK.out _ _ ((Ext.refl _).alloc _) ⟨_, rfl, hE.size, Bx.new _ _ _ _ _⟩ FreshIf.yes }) ?_
    exact RgAll.nil
  intro v W4 e1 hΦ _
  replace S := S.mono e1
  obtain ⟨s30, a30, n30, c30, v0, h30⟩ := (hΦ 0 (by decide) : IsI (k1 + 1) 0 (v 0) W4)
  obtain ⟨g6, v1, q2, b1⟩ := (hΦ 1 (by decide) : IsB W3 (v 1) W4)
  replace S := S.addN (Apart.old hl.out q2) (Nat.le_trans hw q2) b1
  clear b1
  simp only [layL, Act.put, List.setIfInBounds_toArray, List.set_cons_zero, List.set_cons_succ, Nat.reduceAdd]
  rw [v0, v1]
  clear v0 v1
  clear hΦ
  clear hl hw
  clear e1
  obtain ⟨s8, a8, n8, c8, b8, _⟩ := S.at 0 (g6) (IsI 0 0) rfl; have F1 := b8.c0; have F2 := b8.c1; have F3 := b8.f0; have F4 := b8.f1
  refine wpList_step fun K hK => ?_; go_simp; refine hK _ _ ?_; clear hK K
  clear F1 F2 F3 F4 b8
  obtain ⟨W5, hW, S2, G2, _⟩ := S.put 0 (g6) (IsI 0 0) (IsI (k1 + 1) 0) rfl s30 a30 n30 c30 (IsI.gstb _ _) ⟨_, _, _, _, rfl, h30⟩
  rw [← hW]; clear hW S
  have S : St w W5 [(g6, IsI (k1 + 1) 0), (w.heap.size + 1, IsI 0 0), (w.heap.size, IsI k1 ((m : Int)))] := S2; clear S2 G2
  clear h30
  refine wpList_nil ?_
  go_upto_region 8 with (fail)
  refine wp_region_rgs 6 [some 31, some 32, some 33, some 34, some 35, some 7] [IsI k1 ((m : Int)), IsV (.int .i64 (b : Nat)), IsV (.int .i64 ((b : Nat) - 1)), IsV (.int .i64 ((k : Nat) : Int)), IsV (.int .i64 (q : Nat)), IsV (.int .i64 (q : Nat))] [] (by decide) (by kernel_rfl) (by kernel_rfl) (by kernel_rfl) ?_ ?_ ?_ ?_
  · repeat' (first | exact trivial | exact IsV.stb _ | exact IsW.stb _ | exact IsWk.stb _ _ | exact IsI.stb _ _ | exact IsB.stb _ | exact IsR.stb _ _ | exact IsMag.stb _ _ | exact IsPos.stb | apply IsT3.stb | apply IsT2.stb | apply And.intro)
  · exact (fun _ h => by cases h)
  · refine RgAll.cons (by { (with_reducible refine RgL.mk (by rfl) ?_); intro v a w' hE hd hf; have ev0 := hf.lit 2 (.pointer (some ⟨w.heap.size, 0, none⟩)) (by kernel_rfl) (by kernel_rfl); obtain ⟨s8, a8, n8, c8, b8, h8⟩ := (S.mono hE).at 2 (w.heap.size) (IsI k1 ((m : Int))) rfl; have L0 := b8.c0; have L1 := b8.c1; clear hd hf; intro K hK; go_simp; exact hK.out _ _ (Ext.refl _) h8 (FreshIf.no rfl) }) ?_
    refine RgAll.cons (by { (with_reducible refine RgL.mk (by rfl) ?_); intro v a w' hE hd hf; have d0 : (IsI k1 ((m : Int))) (v 0) w' := hd 0 (by kernel_rfl); have ev0 := hf.val 0 31 _ rfl (by kernel_rfl) (by kernel_rfl) (by kernel_rfl); clear hd hf; intro K hK; go_simp; go_at_call 28; go_split_ands; (with_reducible refine Calls.mono ((by have hh := RBits_f d0 (by omega); rw [HB.out] at hh; exact hh)) ?_); rintro e w2 ⟨x, rfl, e2, hx⟩; exact hK.out _ _ e2 hx (FreshIf.no rfl) }) ?_
    refine RgAll.cons (by { (with_reducible refine RgL.mk (by rfl) ?_); intro v a w' hE hd hf; have d0 : v 1 = .int .i64 (b : Nat) := hd 1 (by kernel_rfl); have ev0 := hf.val 1 32 _ d0 (by kernel_rfl) (by kernel_rfl) (by kernel_rfl); clear d0; have hx9 := HW1.out; clear hd hf; intro K hK; go_simp; exact hK.out _ _ (Ext.refl _) rfl (FreshIf.no rfl) }) ?_
    refine RgAll.cons (by { (with_reducible refine RgL.mk (by rfl) ?_); intro v a w' hE hd hf; have ev0 := hf.lit 1 (.int .i64 ((k : Nat) : Int)) (by kernel_rfl) (by kernel_rfl); clear hd hf; intro K hK; go_simp; exact hK.out _ _ (Ext.refl _) rfl (FreshIf.no rfl) }) ?_
    refine RgAll.cons (by { (with_reducible refine RgL.mk (by rfl) ?_); intro v a w' hE hd hf; have d0 : v 2 = .int .i64 ((b : Nat) - 1) := hd 2 (by kernel_rfl); have ev0 := hf.val 2 33 _ d0 (by kernel_rfl) (by kernel_rfl) (by kernel_rfl); clear d0; have d1 : v 3 = .int .i64 ((k : Nat) : Int) := hd 3 (by kernel_rfl); have ev1 := hf.val 3 34 _ d1 (by kernel_rfl) (by kernel_rfl) (by kernel_rfl); clear d1; have hx9 := HQ.out.1; have hx8 := HQ.out.2; have hx7 := HQW.out; have hx6 := HK0.out; have hx5 := HK00.out; clear hd hf; intro K hK; go_simp; exact hK.out _ _ (Ext.refl _) rfl (FreshIf.no rfl) }) ?_
    refine RgAll.cons (by { (with_reducible refine RgL.mk (by rfl) ?_); intro v a w' hE hd hf; have d0 : v 4 = .int .i64 (q : Nat) := hd 4 (by kernel_rfl); have ev0 := hf.val 4 35 _ d0 (by kernel_rfl) (by kernel_rfl) (by kernel_rfl); clear d0; clear hd hf; intro K hK; go_simp; exact hK.out _ _ (Ext.refl _) rfl (FreshIf.no rfl) }) ?_
    exact RgAll.nil
  intro v W6 e1 hΦ _
  replace S := S.mono e1
  have v5 : v 5 = .int .i64 (q : Nat) := hΦ 5 (by decide)
  simp only [layL, Act.put, List.setIfInBounds_toArray, List.set_cons_zero, List.set_cons_succ, Nat.reduceAdd]
  rw [v5]
  clear v5
  clear hΦ
  clear e1
  refine wpList_nil ?_
  go_wp2_with fail
  have S0 := hid (show St w W6 [(g6, IsI (k1 + 1) (((0 : Nat) : Int))), (w.heap.size + 1, IsI 0 0), (w.heap.size, IsI k1 (m : Int))] from S); clear S
  go_loopg [7] (q + 1) (fun gk v7 wr => ∃ s : Nat, v7 = .int .i64 ((gk : Int) - 1) ∧ gk ≤ q + 1 ∧ Hid (s ≤ r ∧ r < s + 2 ^ gk) ∧ Hid (St w wr [(g6, IsI (k1 + 1) ((s : Nat) : Int)), (w.heap.size + 1, IsI 0 0), (w.heap.size, IsI k1 (m : Int))]))
  case atStart => exact ⟨0, by go_must (first | (congr 1; omega) | go_num), Nat.le_refl _, HR0.out, S0⟩
  case round =>
    clear S0
    obtain ⟨s, rfl, hgq, HSR, S⟩ := hrel
    have S := S.out
    rcases Nat.eq_zero_or_pos gk with hg | hg
    · skip
      subst hg
      obtain rfl : s = r := by have h := HSR.out; simp at h; omega
      rw [show ((0 : Nat) : Int) - 1 = -1 from rfl]
      go_upto_region 9 with (fail)
      refine wp_region_rgs 2 [some 36, some 37] [IsV (.int .i64 (-1)), IsV (.bool false)] [] (by decide) (by kernel_rfl) (by kernel_rfl) (by kernel_rfl) ?_ ?_ ?_ ?_
      · repeat' (first | exact trivial | exact IsV.stb _ | exact IsW.stb _ | exact IsWk.stb _ _ | exact IsI.stb _ _ | exact IsB.stb _ | exact IsR.stb _ _ | exact IsMag.stb _ _ | exact IsPos.stb | apply IsT3.stb | apply IsT2.stb | apply And.intro)
      · exact (fun _ h => by cases h)
      · refine RgAll.cons (by { (with_reducible refine RgL.mk (by rfl) ?_); intro v a w' hE hd hf; have ev0 := hf.lit 7 (.int .i64 (-1)) (by kernel_rfl) (by kernel_rfl); clear hd hf; intro K hK; go_simp; exact hK.out _ _ (Ext.refl _) rfl (FreshIf.no rfl) }) ?_
        refine RgAll.cons (by { (with_reducible refine RgL.mk (by rfl) ?_); intro v a w' hE hd hf; have d0 : v 0 = .int .i64 (-1) := hd 0 (by kernel_rfl); have ev0 := hf.val 0 36 _ d0 (by kernel_rfl) (by kernel_rfl) (by kernel_rfl); clear d0; clear hd hf; intro K hK; go_simp; exact hK.out _ _ (Ext.refl _) rfl (FreshIf.no rfl) }) ?_
        exact RgAll.nil
      intro v W7 e1 hΦ _
      replace S := S.mono e1
      have v1 : v 1 = .bool false := hΦ 1 (by decide)
      simp only [layL, Act.put, List.setIfInBounds_toArray, List.set_cons_zero, List.set_cons_succ, Nat.reduceAdd]
      rw [v1]
      clear v1
      clear hΦ
      clear e1
      refine wpList_nil ?_
      go_upto_region 14 with (fail)
      refine wp_region_rgs 1 [some 53] [IsI (k1 + 1) (((s : Nat) : Int))] [] (by decide) (by kernel_rfl) (by kernel_rfl) (by kernel_rfl) ?_ ?_ ?_ ?_
      · repeat' (first | exact trivial | exact IsV.stb _ | exact IsW.stb _ | exact IsWk.stb _ _ | exact IsI.stb _ _ | exact IsB.stb _ | exact IsR.stb _ _ | exact IsMag.stb _ _ | exact IsPos.stb | apply IsT3.stb | apply IsT2.stb | apply And.intro)
      · exact (fun _ h => by cases h)
      · refine RgAll.cons (by { (with_reducible refine RgL.mk (by rfl) ?_); intro v a w' hE hd hf; have ev0 := hf.lit 6 (.pointer (some ⟨g6, 0, none⟩)) (by kernel_rfl) (by kernel_rfl); obtain ⟨s8, a8, n8, c8, b8, h8⟩ := (S.mono hE).at 0 (g6) (IsI (k1 + 1) (((s : Nat) : Int))) rfl; have L0 := b8.c0; have L1 := b8.c1; clear hd hf; intro K hK; go_simp; exact hK.out _ _ (Ext.refl _) h8 (FreshIf.no rfl) }) ?_
        exact RgAll.nil
      intro v W8 e1 hΦ _
      replace S := S.mono e1
      obtain ⟨s53, a53, n53, c53, v0, h53⟩ := (hΦ 0 (by decide) : IsI (k1 + 1) (((s : Nat) : Int)) (v 0) W8)
      simp only [layL, Act.put, List.setIfInBounds_toArray, List.set_cons_zero, List.set_cons_succ]
      rw [v0]
      clear v0
      clear hΦ
      clear e1
      obtain ⟨s8, a8, n8, c8, b8, _⟩ := S.at 1 (w.heap.size + 1) (IsI 0 0) rfl; have F1 := b8.c0; have F2 := b8.c1; have F3 := b8.f0; have F4 := b8.f1
      refine wpList_step fun K hK => ?_; go_simp; refine hK _ _ ?_; clear hK K
      clear F1 F2 F3 F4 b8
      obtain ⟨W9, hW, S2, G2, _⟩ := S.put 1 (w.heap.size + 1) (IsI 0 0) (IsI (k1 + 1) (((s : Nat) : Int))) rfl s53 a53 n53 c53 (IsI.gstb _ _) ⟨_, _, _, _, rfl, h53⟩
      rw [← hW]; clear hW S
      have S : St w W9 [(g6, IsI (k1 + 1) (((s : Nat) : Int))), (w.heap.size + 1, IsI (k1 + 1) (((s : Nat) : Int))), (w.heap.size, IsI k1 ((m : Int)))] := S2; clear S2 G2
      clear h53
      refine wpList_step fun K hK => ?_; go_simp; refine hK _ _ ?_; clear hK K
      refine wpList_nil ?_
      go_wp2_with fail
      obtain ⟨rs0, ra0, rn0, rc0, rb0, rh0⟩ := S.at 1 (w.heap.size + 1) (IsI (k1 + 1) (((s : Nat) : Int))) rfl; have T0 := rb0.c0; have U0 := rb0.c1
      exact bodyPost_ret (v := .tuple #[.agg #[.bool rs0, .slice ra0 rn0 rc0], .int .i64 0]) (by simp [results, Tryz.results32, go_sem, T0, U0]) rfl (⟨_, rfl, S.ext, _, _, rfl, IsI.tight rh0 HRS.out, rfl⟩)
    · obtain ⟨i, rfl⟩ : ∃ i, gk = i + 1 := ⟨gk - 1, by omega⟩
      rw [show ((i + 1 : Nat) : Int) - 1 = (i : Int) by omega]
      have HGE := hid (show decide ((0 : Int) ≤ (i : Int)) = true by simp)
      obtain ⟨T, hT⟩ : ∃ T, T = s + 2 ^ i := ⟨_, rfl⟩
      have HT := hid (show ((s : Nat) : Int) + ((2 ^ i : Nat) : Int) = ((T : Nat) : Int) by rw [hT]; simp)
      have HTS := hid (show ((T : Nat) : Int).natAbs < 4294967296 ^ (k1 + 1) by rw [Int.natAbs_natCast, hT]; exact root_size m k1 s r i q (by have h := sz1.out; rwa [Int.natAbs_natCast] at h) HSR.out.1 HRM.out (by omega) HQM.out)
      have HPW := hid (show ((T : Nat) : Int) ^ k = ((T ^ k : Nat) : Int) by rw [Int.natCast_pow])
      have HIL := hid (show i ≤ 32 * k1 + 1 by have := HQL.out; omega)
      obtain ⟨c, hc⟩ : ∃ c, c = cmpI ((T ^ k : Nat) : Int) ((m : Nat) : Int) := ⟨_, rfl⟩
      have HTv := hid hT
      have HGQ := hid hgq
      clear hg hT hgq
      by_cases hle : T ≤ r
      · have HN := hid (show T ≤ r ∧ r < T + 2 ^ i from ⟨hle, by have h := HSR.out.2; rw [Nat.pow_succ] at h; rw [HTv.out]; omega⟩)
        have HC := hid (show cmpI ((T ^ k : Nat) : Int) ((m : Nat) : Int) = c ∧ decide (c ≤ 0) = true from ⟨hc.symm, by
          have h1 : T ^ k ≤ m := Nat.le_trans (Nat.pow_le_pow_left hle k) HR.out.1
          rcases Nat.eq_or_lt_of_le h1 with h | h
          · rw [hc, cmpI_eq (by rw [h])]; decide
          · rw [hc, cmpI_lt (by omega)]; decide⟩)
        clear hc hle
        go_upto_region 9 with (fail)
        refine wp_region_rgs 2 [some 36, some 37] [IsV (.int .i64 ((i : Nat) : Int)), IsV (.bool true)] [] (by decide) (by kernel_rfl) (by kernel_rfl) (by kernel_rfl) ?_ ?_ ?_ ?_
        · repeat' (first | exact trivial | exact IsV.stb _ | exact IsW.stb _ | exact IsWk.stb _ _ | exact IsI.stb _ _ | exact IsB.stb _ | exact IsR.stb _ _ | exact IsMag.stb _ _ | exact IsPos.stb | apply IsT3.stb | apply IsT2.stb | apply And.intro)
        · exact (fun _ h => by cases h)
        · refine RgAll.cons (by { (with_reducible refine RgL.mk (by rfl) ?_); intro v a w' hE hd hf; have ev0 := hf.lit 7 (.int .i64 ((i : Nat) : Int)) (by kernel_rfl) (by kernel_rfl); clear hd hf; intro K hK; go_simp; exact hK.out _ _ (Ext.refl _) rfl (FreshIf.no rfl) }) ?_
          refine RgAll.cons (by { (with_reducible refine RgL.mk (by rfl) ?_); intro v a w' hE hd hf; have d0 : v 0 = .int .i64 ((i : Nat) : Int) := hd 0 (by kernel_rfl); have ev0 := hf.val 0 36 _ d0 (by kernel_rfl) (by kernel_rfl) (by kernel_rfl); clear d0; have hx9 := HGE.out; clear hd hf; intro K hK; go_simp; exact hK.out _ _ (Ext.refl _) rfl (FreshIf.no rfl) }) ?_
          exact RgAll.nil
        intro v W11 e1 hΦ _
        replace S := S.mono e1
        have v1 : v 1 = .bool true := hΦ 1 (by decide)
        simp only [layL, Act.put, List.setIfInBounds_toArray, List.set_cons_zero, List.set_cons_succ, Nat.reduceAdd]
        rw [v1]
        clear v1
        clear hΦ
        clear e1
        refine wpList_nil ?_
        go_upto_region 11 with (fail)
        have hl := hid S.lt; have hw := S.ext.size
        refine wp_region_rg 7 [some 40, some 41, some 42, some 43, some 44, some 45, some 8] [IsI (k1 + 1) (((s : Nat) : Int)), IsW [1], IsV (.int .i64 ((i : Nat) : Int)), IsWk (i / 32 + 2) (2 ^ i), IsI (i / 32 + 2) (((2 ^ i : Nat) : Int)), IsI (k1 + 1) (((T : Nat) : Int)), IsB W11] [6] 1 (by kernel_rfl) (by decide) (by kernel_rfl) (by kernel_rfl) (by kernel_rfl) (by kernel_rfl) (by kernel_rfl) ?_ ?_ ?_ ?_
        · repeat' (first | exact trivial | exact IsV.stb _ | exact IsW.stb _ | exact IsWk.stb _ _ | exact IsI.stb _ _ | exact IsB.stb _ | exact IsR.stb _ _ | exact IsMag.stb _ _ | exact IsPos.stb | apply IsT3.stb | apply IsT2.stb | apply And.intro)
        · intro i hi; simp only [List.mem_cons, List.not_mem_nil, or_false] at hi; subst hi; exact IsB.box _
        · refine RgAll.cons (by { (with_reducible refine RgL.mk (by rfl) ?_); intro v a w' hE hd hf; have ev0 := hf.lit 6 (.pointer (some ⟨g6, 0, none⟩)) (by kernel_rfl) (by kernel_rfl); obtain ⟨s8, a8, n8, c8, b8, h8⟩ := (S.mono hE).at 0 (g6) (IsI (k1 + 1) (((s : Nat) : Int))) rfl; have L0 := b8.c0; have L1 := b8.c1; clear hd hf; intro K hK; go_simp; exact hK.out _ _ (Ext.refl _) h8 (FreshIf.no rfl) }) ?_
          refine RgAll.cons (by { (with_reducible refine RgL.mk (by rfl) ?_); intro v a w' hE hd hf; skip; clear hd hf; intro K hK; go_simp; exact hK.out _ _ ((Ext.refl _).alloc _) (IsW.one w') (FreshIf.no rfl) }) ?_
          refine RgAll.cons (by { (with_reducible refine RgL.mk (by rfl) ?_); intro v a w' hE hd hf; have ev0 := hf.lit 7 (.int .i64 ((i : Nat) : Int)) (by kernel_rfl) (by kernel_rfl); clear hd hf; intro K hK; go_simp; exact hK.out _ _ (Ext.refl _) rfl (FreshIf.no rfl) }) ?_
          refine RgAll.cons (by { (with_reducible refine RgL.mk (by rfl) ?_); intro v a w' hE hd hf; have d0 : (IsW [1]) (v 1) w' := hd 1 (by kernel_rfl); have ev0 := hf.val 1 41 _ rfl (by kernel_rfl) (by kernel_rfl) (by kernel_rfl); have d1 : v 2 = .int .i64 ((i : Nat) : Int) := hd 2 (by kernel_rfl); have ev1 := hf.val 2 42 _ d1 (by kernel_rfl) (by kernel_rfl) (by kernel_rfl); clear d1; clear hd hf; intro K hK; go_simp; go_at_call 58; go_split_ands; (with_reducible refine Calls.mono (left1_f d0 i (by have := HIL.out; omega)) ?_); rintro e w2 ⟨x, rfl, e2, hx⟩; exact hK.out _ _ e2 hx (FreshIf.no rfl) }) ?_
          refine RgAll.cons (by { (with_reducible refine RgL.mk (by rfl) ?_); intro v a w' hE hd hf; have d1 : (IsWk (i / 32 + 2) (2 ^ i)) (v 3) w' := hd 3 (by kernel_rfl); have ev1 := hf.val 3 43 _ rfl (by kernel_rfl) (by kernel_rfl) (by kernel_rfl); clear hd hf; intro K hK; go_simp; go_at_call 40; go_split_ands; (with_reducible refine Calls.mono (made_w d1) ?_); rintro e w2 ⟨x, rfl, e2, hx⟩; exact hK.out _ _ e2 hx (FreshIf.no rfl) }) ?_
          refine RgAll.cons (by { (with_reducible refine RgL.mk (by rfl) ?_); intro v a w' hE hd hf; have d0 : (IsI (k1 + 1) (((s : Nat) : Int))) (v 0) w' := hd 0 (by kernel_rfl); have ev0 := hf.val 0 40 _ rfl (by kernel_rfl) (by kernel_rfl) (by kernel_rfl); have d1 : (IsI (i / 32 + 2) (((2 ^ i : Nat) : Int))) (v 4) w' := hd 4 (by kernel_rfl); have ev1 := hf.val 4 44 _ rfl (by kernel_rfl) (by kernel_rfl) (by kernel_rfl); clear hd hf; intro K hK; go_simp; go_at_call 14; go_split_ands; (with_reducible refine Calls.mono (Calls.mono (RAdd_f d0 d1 (by omega) (by have := HIL.out; omega)) fun _ _ h => (h.eqz HT.out).mono fun _ _ h => h.tight (k' := k1 + 1) HTS.out) ?_); rintro e w2 ⟨x, rfl, e2, hx⟩; exact hK.out _ _ e2 hx (FreshIf.no rfl) }) ?_
          refine RgAll.cons (by { (with_reducible refine RgL.mk (by rfl) ?_); intro v a w' hE hd hf; skip; clear hd hf; intro K hK; go_simp; refine hK.out _ _ ((Ext.refl _).alloc _) ⟨_, rfl, hE.size, Bx.new _ _ _ _ _⟩ FreshIf.yes }) ?_
          exact RgAll.nil
        intro v W12 e1 hΦ _
        replace S := S.mono e1
        obtain ⟨s45, a45, n45, c45, v5, h45⟩ := (hΦ 5 (by decide) : IsI (k1 + 1) (((T : Nat) : Int)) (v 5) W12)
        obtain ⟨g8, v6, q4, b3⟩ := (hΦ 6 (by decide) : IsB W11 (v 6) W12)
        replace S := S.addN (Apart.old hl.out q4) (Nat.le_trans hw q4) b3
        clear b3
        simp only [layL, Act.put, List.setIfInBounds_toArray, List.set_cons_zero, List.set_cons_succ, Nat.reduceAdd]
        rw [v5, v6]
        clear v5 v6
        clear hΦ
        clear hl hw
        clear e1
        obtain ⟨s8, a8, n8, c8, b8, _⟩ := S.at 0 (g8) (IsI 0 0) rfl; have F1 := b8.c0; have F2 := b8.c1; have F3 := b8.f0; have F4 := b8.f1
        refine wpAny_ready (rs := [7]) (by kernel_rfl) (by simp) (AllReady.cons rfl (fun K hK => ?_) AllReady.nil); go_simp; refine hK _ _ ?_; clear hK K
        clear F1 F2 F3 F4 b8
        obtain ⟨W13, hW, S2, G2, _⟩ := S.put 0 (g8) (IsI 0 0) (IsI (k1 + 1) (((T : Nat) : Int))) rfl s45 a45 n45 c45 (IsI.gstb _ _) ⟨_, _, _, _, rfl, h45⟩
        rw [← hW]; clear hW S
        have S : St w W13 [(g8, IsI (k1 + 1) (((T : Nat) : Int))), (g6, IsI (k1 + 1) (((s : Nat) : Int))), (w.heap.size + 1, IsI 0 0), (w.heap.size, IsI k1 ((m : Int)))] := S2; clear S2 G2
        clear h45
        refine wpAny_done (by kernel_rfl) ?_ _
        go_upto_region 12 with (fail)
        refine wp_region_rg 6 [some 46, some 47, some 48, some 49, some 50, some 51] [IsI (k1 + 1) (((T : Nat) : Int)), IsV (.int .i64 ((k : Nat) : Int)), IsI ((k1 + 1) * k + 2) (((T ^ k : Nat) : Int)), IsI k1 ((m : Int)), IsV (.int .i64 c), IsV (.bool true)] [] 0 (by kernel_rfl) (by decide) (by kernel_rfl) (by kernel_rfl) (by kernel_rfl) (by kernel_rfl) (by kernel_rfl) ?_ ?_ ?_ ?_
        · repeat' (first | exact trivial | exact IsV.stb _ | exact IsW.stb _ | exact IsWk.stb _ _ | exact IsI.stb _ _ | exact IsB.stb _ | exact IsR.stb _ _ | exact IsMag.stb _ _ | exact IsPos.stb | apply IsT3.stb | apply IsT2.stb | apply And.intro)
        · exact (fun _ h => by cases h)
        · refine RgAll.cons (by { (with_reducible refine RgL.mk (by rfl) ?_); intro v a w' hE hd hf; have ev0 := hf.lit 8 (.pointer (some ⟨g8, 0, none⟩)) (by kernel_rfl) (by kernel_rfl); obtain ⟨s8, a8, n8, c8, b8, h8⟩ := (S.mono hE).at 0 (g8) (IsI (k1 + 1) (((T : Nat) : Int))) rfl; have L0 := b8.c0; have L1 := b8.c1; clear hd hf; intro K hK; go_simp; exact hK.out _ _ (Ext.refl _) h8 (FreshIf.no rfl) }) ?_
          refine RgAll.cons (by { (with_reducible refine RgL.mk (by rfl) ?_); intro v a w' hE hd hf; have ev0 := hf.lit 1 (.int .i64 ((k : Nat) : Int)) (by kernel_rfl) (by kernel_rfl); clear hd hf; intro K hK; go_simp; exact hK.out _ _ (Ext.refl _) rfl (FreshIf.no rfl) }) ?_
          refine RgAll.cons (by { (with_reducible refine RgL.mk (by rfl) ?_); intro v a w' hE hd hf; have d0 : (IsI (k1 + 1) (((T : Nat) : Int))) (v 0) w' := hd 0 (by kernel_rfl); have ev0 := hf.val 0 46 _ rfl (by kernel_rfl) (by kernel_rfl) (by kernel_rfl); have d1 : v 1 = .int .i64 ((k : Nat) : Int) := hd 1 (by kernel_rfl); have ev1 := hf.val 1 47 _ d1 (by kernel_rfl) (by kernel_rfl) (by kernel_rfl); clear d1; clear hd hf; intro K hK; go_simp; go_at_call 36; go_split_ands; (with_reducible refine Calls.mono ((by have hh := RPower_f d0 k HKK.out.1 HKK.out.2; rw [HPW.out] at hh; exact hh)) ?_); rintro e w2 ⟨x, rfl, e2, hx⟩; exact hK.out _ _ e2 hx (FreshIf.no rfl) }) ?_
          refine RgAll.cons (by { (with_reducible refine RgL.mk (by rfl) ?_); intro v a w' hE hd hf; have ev0 := hf.lit 2 (.pointer (some ⟨w.heap.size, 0, none⟩)) (by kernel_rfl) (by kernel_rfl); obtain ⟨s8, a8, n8, c8, b8, h8⟩ := (S.mono hE).at 3 (w.heap.size) (IsI k1 ((m : Int))) rfl; have L0 := b8.c0; have L1 := b8.c1; clear hd hf; intro K hK; go_simp; exact hK.out _ _ (Ext.refl _) h8 (FreshIf.no rfl) }) ?_
          refine RgAll.cons (by { (with_reducible refine RgL.mk (by rfl) ?_); intro v a w' hE hd hf; have d0 : (IsI ((k1 + 1) * k + 2) (((T ^ k : Nat) : Int))) (v 2) w' := hd 2 (by kernel_rfl); have ev0 := hf.val 2 48 _ rfl (by kernel_rfl) (by kernel_rfl) (by kernel_rfl); have d1 : (IsI k1 ((m : Int))) (v 3) w' := hd 3 (by kernel_rfl); have ev1 := hf.val 3 49 _ rfl (by kernel_rfl) (by kernel_rfl) (by kernel_rfl); clear hd hf; intro K hK; go_simp; go_at_call 24; go_split_ands; (with_reducible refine Calls.mono ((by have hh := RCmp_f d0 d1 (by have := HKK.out.1; omega) (by omega); rw [HC.out.1] at hh; exact hh)) ?_); rintro e w2 ⟨x, rfl, e2, hx⟩; exact hK.out _ _ e2 hx (FreshIf.no rfl) }) ?_
          refine RgAll.cons (by { (with_reducible refine RgL.mk (by rfl) ?_); intro v a w' hE hd hf; have d0 : v 4 = .int .i64 c := hd 4 (by kernel_rfl); have ev0 := hf.val 4 50 _ d0 (by kernel_rfl) (by kernel_rfl) (by kernel_rfl); clear d0; have hc9 := HC.out.2; clear hd hf; intro K hK; go_simp; exact hK.out _ _ (Ext.refl _) rfl (FreshIf.no rfl) }) ?_
          exact RgAll.nil
        intro v W14 e1 hΦ _
        replace S := S.mono e1
        have v5 : v 5 = .bool true := hΦ 5 (by decide)
        simp only [layL, Act.put, List.setIfInBounds_toArray, List.set_cons_zero, List.set_cons_succ, Nat.reduceAdd]
        rw [v5]
        clear v5
        clear hΦ
        clear e1
        refine wpAny_done (by kernel_rfl) ?_ _
        go_upto_region 13 with (fail)
        refine wp_region_rgs 1 [some 52] [IsI (k1 + 1) (((T : Nat) : Int))] [] (by decide) (by kernel_rfl) (by kernel_rfl) (by kernel_rfl) ?_ ?_ ?_ ?_
        · repeat' (first | exact trivial | exact IsV.stb _ | exact IsW.stb _ | exact IsWk.stb _ _ | exact IsI.stb _ _ | exact IsB.stb _ | exact IsR.stb _ _ | exact IsMag.stb _ _ | exact IsPos.stb | apply IsT3.stb | apply IsT2.stb | apply And.intro)
        · exact (fun _ h => by cases h)
        · refine RgAll.cons (by { (with_reducible refine RgL.mk (by rfl) ?_); intro v a w' hE hd hf; have ev0 := hf.lit 8 (.pointer (some ⟨g8, 0, none⟩)) (by kernel_rfl) (by kernel_rfl); obtain ⟨s8, a8, n8, c8, b8, h8⟩ := (S.mono hE).at 0 (g8) (IsI (k1 + 1) (((T : Nat) : Int))) rfl; have L0 := b8.c0; have L1 := b8.c1; clear hd hf; intro K hK; go_simp; exact hK.out _ _ (Ext.refl _) h8 (FreshIf.no rfl) }) ?_
          exact RgAll.nil
        intro v W15 e1 hΦ _
        replace S := S.mono e1
        obtain ⟨s52, a52, n52, c52, v0, h52⟩ := (hΦ 0 (by decide) : IsI (k1 + 1) (((T : Nat) : Int)) (v 0) W15)
        simp only [layL, Act.put, List.setIfInBounds_toArray, List.set_cons_zero, List.set_cons_succ]
        rw [v0]
        clear v0
        clear hΦ
        clear e1
        obtain ⟨s8, a8, n8, c8, b8, _⟩ := S.at 1 (g6) (IsI (k1 + 1) (((s : Nat) : Int))) rfl; have F1 := b8.c0; have F2 := b8.c1; have F3 := b8.f0; have F4 := b8.f1
        refine wpList_step fun K hK => ?_; go_simp; refine hK _ _ ?_; clear hK K
        clear F1 F2 F3 F4 b8
        obtain ⟨W16, hW, S2, G2, _⟩ := S.put 1 (g6) (IsI (k1 + 1) (((s : Nat) : Int))) (IsI (k1 + 1) (((T : Nat) : Int))) rfl s52 a52 n52 c52 (IsI.gstb _ _) ⟨_, _, _, _, rfl, h52⟩
        rw [← hW]; clear hW S
        have S : St w W16 [(g8, IsI (k1 + 1) (((T : Nat) : Int))), (g6, IsI (k1 + 1) (((T : Nat) : Int))), (w.heap.size + 1, IsI 0 0), (w.heap.size, IsI k1 ((m : Int)))] := S2; clear S2 G2
        clear h52
        refine wpList_nil ?_
        have S' := hid S.tail; clear S
        have hil := HIL.out
        go_wp2_with fail
        go_roundg i
        case measure => omega
        case rel => exact ⟨T, rfl, by have := HGQ.out; omega, HN, S'⟩
      · have HN := hid (show s ≤ r ∧ r < s + 2 ^ i from ⟨HSR.out.1, by rw [← HTv.out]; omega⟩)
        have HC := hid (show cmpI ((T ^ k : Nat) : Int) ((m : Nat) : Int) = c ∧ decide (c ≤ 0) = false from ⟨hc.symm, by
          have h1 : (r + 1) ^ k ≤ T ^ k := Nat.pow_le_pow_left (by omega) k
          have h2 := HR.out.2
          rw [hc, cmpI_gt (by omega)]; decide⟩)
        clear hc hle
        go_upto_region 9 with (fail)
        refine wp_region_rgs 2 [some 36, some 37] [IsV (.int .i64 ((i : Nat) : Int)), IsV (.bool true)] [] (by decide) (by kernel_rfl) (by kernel_rfl) (by kernel_rfl) ?_ ?_ ?_ ?_
        · repeat' (first | exact trivial | exact IsV.stb _ | exact IsW.stb _ | exact IsWk.stb _ _ | exact IsI.stb _ _ | exact IsB.stb _ | exact IsR.stb _ _ | exact IsMag.stb _ _ | exact IsPos.stb | apply IsT3.stb | apply IsT2.stb | apply And.intro)
        · exact (fun _ h => by cases h)
        · refine RgAll.cons (by { (with_reducible refine RgL.mk (by rfl) ?_); intro v a w' hE hd hf; have ev0 := hf.lit 7 (.int .i64 ((i : Nat) : Int)) (by kernel_rfl) (by kernel_rfl); clear hd hf; intro K hK; go_simp; exact hK.out _ _ (Ext.refl _) rfl (FreshIf.no rfl) }) ?_
          refine RgAll.cons (by { (with_reducible refine RgL.mk (by rfl) ?_); intro v a w' hE hd hf; have d0 : v 0 = .int .i64 ((i : Nat) : Int) := hd 0 (by kernel_rfl); have ev0 := hf.val 0 36 _ d0 (by kernel_rfl) (by kernel_rfl) (by kernel_rfl); clear d0; have hx9 := HGE.out; clear hd hf; intro K hK; go_simp; exact hK.out _ _ (Ext.refl _) rfl (FreshIf.no rfl) }) ?_
          exact RgAll.nil
        intro v W18 e1 hΦ _
        replace S := S.mono e1
        have v1 : v 1 = .bool true := hΦ 1 (by decide)
        simp only [layL, Act.put, List.setIfInBounds_toArray, List.set_cons_zero, List.set_cons_succ, Nat.reduceAdd]
        rw [v1]
        clear v1
        clear hΦ
        clear e1
        refine wpList_nil ?_
        go_upto_region 11 with (fail)
        have hl := hid S.lt; have hw := S.ext.size
        refine wp_region_rg 7 [some 40, some 41, some 42, some 43, some 44, some 45, some 8] [IsI (k1 + 1) (((s : Nat) : Int)), IsW [1], IsV (.int .i64 ((i : Nat) : Int)), IsWk (i / 32 + 2) (2 ^ i), IsI (i / 32 + 2) (((2 ^ i : Nat) : Int)), IsI (k1 + 1) (((T : Nat) : Int)), IsB W18] [6] 1 (by kernel_rfl) (by decide) (by kernel_rfl) (by kernel_rfl) (by kernel_rfl) (by kernel_rfl) (by kernel_rfl) ?_ ?_ ?_ ?_
        · repeat' (first | exact trivial | exact IsV.stb _ | exact IsW.stb _ | exact IsWk.stb _ _ | exact IsI.stb _ _ | exact IsB.stb _ | exact IsR.stb _ _ | exact IsMag.stb _ _ | exact IsPos.stb | apply IsT3.stb | apply IsT2.stb | apply And.intro)
        · intro i hi; simp only [List.mem_cons, List.not_mem_nil, or_false] at hi; subst hi; exact IsB.box _
        · refine RgAll.cons (by { (with_reducible refine RgL.mk (by rfl) ?_); intro v a w' hE hd hf; have ev0 := hf.lit 6 (.pointer (some ⟨g6, 0, none⟩)) (by kernel_rfl) (by kernel_rfl); obtain ⟨s8, a8, n8, c8, b8, h8⟩ := (S.mono hE).at 0 (g6) (IsI (k1 + 1) (((s : Nat) : Int))) rfl; have L0 := b8.c0; have L1 := b8.c1; clear hd hf; intro K hK; go_simp; exact hK.out _ _ (Ext.refl _) h8 (FreshIf.no rfl) }) ?_
          refine RgAll.cons (by { (with_reducible refine RgL.mk (by rfl) ?_); intro v a w' hE hd hf; skip; clear hd hf; intro K hK; go_simp; exact hK.out _ _ ((Ext.refl _).alloc _) (IsW.one w') (FreshIf.no rfl) }) ?_
          refine RgAll.cons (by { (with_reducible refine RgL.mk (by rfl) ?_); intro v a w' hE hd hf; have ev0 := hf.lit 7 (.int .i64 ((i : Nat) : Int)) (by kernel_rfl) (by kernel_rfl); clear hd hf; intro K hK; go_simp; exact hK.out _ _ (Ext.refl _) rfl (FreshIf.no rfl) }) ?_
          refine RgAll.cons (by { (with_reducible refine RgL.mk (by rfl) ?_); intro v a w' hE hd hf; have d0 : (IsW [1]) (v 1) w' := hd 1 (by kernel_rfl); have ev0 := hf.val 1 41 _ rfl (by kernel_rfl) (by kernel_rfl) (by kernel_rfl); have d1 : v 2 = .int .i64 ((i : Nat) : Int) := hd 2 (by kernel_rfl); have ev1 := hf.val 2 42 _ d1 (by kernel_rfl) (by kernel_rfl) (by kernel_rfl); clear d1; clear hd hf; intro K hK; go_simp; go_at_call 58; go_split_ands; (with_reducible refine Calls.mono (left1_f d0 i (by have := HIL.out; omega)) ?_); rintro e w2 ⟨x, rfl, e2, hx⟩; exact hK.out _ _ e2 hx (FreshIf.no rfl) }) ?_
          refine RgAll.cons (by { (with_reducible refine RgL.mk (by rfl) ?_); intro v a w' hE hd hf; have d1 : (IsWk (i / 32 + 2) (2 ^ i)) (v 3) w' := hd 3 (by kernel_rfl); have ev1 := hf.val 3 43 _ rfl (by kernel_rfl) (by kernel_rfl) (by kernel_rfl); clear hd hf; intro K hK; go_simp; go_at_call 40; go_split_ands; (with_reducible refine Calls.mono (made_w d1) ?_); rintro e w2 ⟨x, rfl, e2, hx⟩; exact hK.out _ _ e2 hx (FreshIf.no rfl) }) ?_
          refine RgAll.cons (by { (with_reducible refine RgL.mk (by rfl) ?_); intro v a w' hE hd hf; have d0 : (IsI (k1 + 1) (((s : Nat) : Int))) (v 0) w' := hd 0 (by kernel_rfl); have ev0 := hf.val 0 40 _ rfl (by kernel_rfl) (by kernel_rfl) (by kernel_rfl); have d1 : (IsI (i / 32 + 2) (((2 ^ i : Nat) : Int))) (v 4) w' := hd 4 (by kernel_rfl); have ev1 := hf.val 4 44 _ rfl (by kernel_rfl) (by kernel_rfl) (by kernel_rfl); clear hd hf; intro K hK; go_simp; go_at_call 14; go_split_ands; (with_reducible refine Calls.mono (Calls.mono (RAdd_f d0 d1 (by omega) (by have := HIL.out; omega)) fun _ _ h => (h.eqz HT.out).mono fun _ _ h => h.tight (k' := k1 + 1) HTS.out) ?_); rintro e w2 ⟨x, rfl, e2, hx⟩; exact hK.out _ _ e2 hx (FreshIf.no rfl) }) ?_
          refine RgAll.cons (by { (with_reducible refine RgL.mk (by rfl) ?_); intro v a w' hE hd hf; skip; clear hd hf; intro K hK; go_simp; refine hK.out _ _ ((Ext.refl _).alloc _) ⟨_, rfl, hE.size, Bx.new _ _ _ _ _⟩ FreshIf.yes }) ?_
          exact RgAll.nil
        intro v W19 e1 hΦ _
        replace S := S.mono e1
        obtain ⟨s45, a45, n45, c45, v5, h45⟩ := (hΦ 5 (by decide) : IsI (k1 + 1) (((T : Nat) : Int)) (v 5) W19)
        obtain ⟨g8, v6, q6, b5⟩ := (hΦ 6 (by decide) : IsB W18 (v 6) W19)
        replace S := S.addN (Apart.old hl.out q6) (Nat.le_trans hw q6) b5
        clear b5
        simp only [layL, Act.put, List.setIfInBounds_toArray, List.set_cons_zero, List.set_cons_succ, Nat.reduceAdd]
        rw [v5, v6]
        clear v5 v6
        clear hΦ
        clear hl hw
        clear e1
        obtain ⟨s8, a8, n8, c8, b8, _⟩ := S.at 0 (g8) (IsI 0 0) rfl; have F1 := b8.c0; have F2 := b8.c1; have F3 := b8.f0; have F4 := b8.f1
        refine wpAny_ready (rs := [7]) (by kernel_rfl) (by simp) (AllReady.cons rfl (fun K hK => ?_) AllReady.nil); go_simp; refine hK _ _ ?_; clear hK K
        clear F1 F2 F3 F4 b8
        obtain ⟨W20, hW, S2, G2, _⟩ := S.put 0 (g8) (IsI 0 0) (IsI (k1 + 1) (((T : Nat) : Int))) rfl s45 a45 n45 c45 (IsI.gstb _ _) ⟨_, _, _, _, rfl, h45⟩
        rw [← hW]; clear hW S
        have S : St w W20 [(g8, IsI (k1 + 1) (((T : Nat) : Int))), (g6, IsI (k1 + 1) (((s : Nat) : Int))), (w.heap.size + 1, IsI 0 0), (w.heap.size, IsI k1 ((m : Int)))] := S2; clear S2 G2
        clear h45
        refine wpAny_done (by kernel_rfl) ?_ _
        go_upto_region 12 with (fail)
        refine wp_region_rg 6 [some 46, some 47, some 48, some 49, some 50, some 51] [IsI (k1 + 1) (((T : Nat) : Int)), IsV (.int .i64 ((k : Nat) : Int)), IsI ((k1 + 1) * k + 2) (((T ^ k : Nat) : Int)), IsI k1 ((m : Int)), IsV (.int .i64 c), IsV (.bool false)] [] 0 (by kernel_rfl) (by decide) (by kernel_rfl) (by kernel_rfl) (by kernel_rfl) (by kernel_rfl) (by kernel_rfl) ?_ ?_ ?_ ?_
        · repeat' (first | exact trivial | exact IsV.stb _ | exact IsW.stb _ | exact IsWk.stb _ _ | exact IsI.stb _ _ | exact IsB.stb _ | exact IsR.stb _ _ | exact IsMag.stb _ _ | exact IsPos.stb | apply IsT3.stb | apply IsT2.stb | apply And.intro)
        · exact (fun _ h => by cases h)
        · refine RgAll.cons (by { (with_reducible refine RgL.mk (by rfl) ?_); intro v a w' hE hd hf; have ev0 := hf.lit 8 (.pointer (some ⟨g8, 0, none⟩)) (by kernel_rfl) (by kernel_rfl); obtain ⟨s8, a8, n8, c8, b8, h8⟩ := (S.mono hE).at 0 (g8) (IsI (k1 + 1) (((T : Nat) : Int))) rfl; have L0 := b8.c0; have L1 := b8.c1; clear hd hf; intro K hK; go_simp; exact hK.out _ _ (Ext.refl _) h8 (FreshIf.no rfl) }) ?_
          refine RgAll.cons (by { (with_reducible refine RgL.mk (by rfl) ?_); intro v a w' hE hd hf; have ev0 := hf.lit 1 (.int .i64 ((k : Nat) : Int)) (by kernel_rfl) (by kernel_rfl); clear hd hf; intro K hK; go_simp; exact hK.out _ _ (Ext.refl _) rfl (FreshIf.no rfl) }) ?_
          refine RgAll.cons (by { (with_reducible refine RgL.mk (by rfl) ?_); intro v a w' hE hd hf; have d0 : (IsI (k1 + 1) (((T : Nat) : Int))) (v 0) w' := hd 0 (by kernel_rfl); have ev0 := hf.val 0 46 _ rfl (by kernel_rfl) (by kernel_rfl) (by kernel_rfl); have d1 : v 1 = .int .i64 ((k : Nat) : Int) := hd 1 (by kernel_rfl); have ev1 := hf.val 1 47 _ d1 (by kernel_rfl) (by kernel_rfl) (by kernel_rfl); clear d1; clear hd hf; intro K hK; go_simp; go_at_call 36; go_split_ands; (with_reducible refine Calls.mono ((by have hh := RPower_f d0 k HKK.out.1 HKK.out.2; rw [HPW.out] at hh; exact hh)) ?_); rintro e w2 ⟨x, rfl, e2, hx⟩; exact hK.out _ _ e2 hx (FreshIf.no rfl) }) ?_
          refine RgAll.cons (by { (with_reducible refine RgL.mk (by rfl) ?_); intro v a w' hE hd hf; have ev0 := hf.lit 2 (.pointer (some ⟨w.heap.size, 0, none⟩)) (by kernel_rfl) (by kernel_rfl); obtain ⟨s8, a8, n8, c8, b8, h8⟩ := (S.mono hE).at 3 (w.heap.size) (IsI k1 ((m : Int))) rfl; have L0 := b8.c0; have L1 := b8.c1; clear hd hf; intro K hK; go_simp; exact hK.out _ _ (Ext.refl _) h8 (FreshIf.no rfl) }) ?_
          refine RgAll.cons (by { (with_reducible refine RgL.mk (by rfl) ?_); intro v a w' hE hd hf; have d0 : (IsI ((k1 + 1) * k + 2) (((T ^ k : Nat) : Int))) (v 2) w' := hd 2 (by kernel_rfl); have ev0 := hf.val 2 48 _ rfl (by kernel_rfl) (by kernel_rfl) (by kernel_rfl); have d1 : (IsI k1 ((m : Int))) (v 3) w' := hd 3 (by kernel_rfl); have ev1 := hf.val 3 49 _ rfl (by kernel_rfl) (by kernel_rfl) (by kernel_rfl); clear hd hf; intro K hK; go_simp; go_at_call 24; go_split_ands; (with_reducible refine Calls.mono ((by have hh := RCmp_f d0 d1 (by have := HKK.out.1; omega) (by omega); rw [HC.out.1] at hh; exact hh)) ?_); rintro e w2 ⟨x, rfl, e2, hx⟩; exact hK.out _ _ e2 hx (FreshIf.no rfl) }) ?_
          refine RgAll.cons (by { (with_reducible refine RgL.mk (by rfl) ?_); intro v a w' hE hd hf; have d0 : v 4 = .int .i64 c := hd 4 (by kernel_rfl); have ev0 := hf.val 4 50 _ d0 (by kernel_rfl) (by kernel_rfl) (by kernel_rfl); clear d0; have hc9 := HC.out.2; clear hd hf; intro K hK; go_simp; exact hK.out _ _ (Ext.refl _) rfl (FreshIf.no rfl) }) ?_
          exact RgAll.nil
        intro v W21 e1 hΦ _
        replace S := S.mono e1
        have v5 : v 5 = .bool false := hΦ 5 (by decide)
        simp only [layL, Act.put, List.setIfInBounds_toArray, List.set_cons_zero, List.set_cons_succ, Nat.reduceAdd]
        rw [v5]
        clear v5
        clear hΦ
        clear e1
        refine wpAny_done (by kernel_rfl) ?_ _
        have S' := hid S.tail; clear S
        have hil := HIL.out
        go_wp2_with fail
        go_roundg i
        case measure => omega
        case rel => exact ⟨s, rfl, by have := HGQ.out; omega, HN, S'⟩

theorem RRoot_f {k1 : Nat} {z1 : Int} {x : Value} {w : World} (hx : IsI k1 z1 x w) (l1 : k1 ≤ 1024) (h0 : 0 ≤ z1) (k : Nat) (hk : 1 ≤ k) (r : Nat) (hr : IsRoot z1.natAbs k r) :
    Calls Tryz.prog 32 #[x, .int .i64 (k : Nat)] w (Ret w (IsT2 (IsI k1 (r : Int)) (IsV (.int .i64 0)))) := by
  obtain ⟨m, rfl⟩ := Int.eq_ofNat_of_zero_le h0
  rw [Int.natAbs_natCast] at hr
  rcases Nat.eq_or_lt_of_le hk with h1 | h1
  · subst h1
    have : r = m := by obtain ⟨h2, h3⟩ := hr; rw [Nat.pow_one] at h2 h3; omega
    subst this
    exact RRoot1_f hx
  · rcases Nat.eq_zero_or_pos m with h2 | h2
    · subst h2
      have : r = 0 := by have := hr.le hk; omega
      subst this
      exact RRoot0_f hx k h1
    · by_cases hb : k < bitLen m
      · exact RRootm_f hx l1 k h1 h2 hb r hr
      · have h3 : r = 1 := by
          refine hr.uniq ⟨by rw [Nat.one_pow]; exact h2, ?_⟩
          obtain ⟨j, h4, _, h6⟩ := bitLen_bounds m (by omega)
          exact Nat.lt_of_lt_of_le h6 (Nat.pow_le_pow_right (by decide) (by omega))
        subst h3
        exact RRootbig_f hx l1 k h1 h2 (by omega)
end Go.Proofs.YtpflfagjkmeeiaaGreatDoor
