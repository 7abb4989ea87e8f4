/-
  The reference package: Sqrt. Every integer of at most 2^20 words. (Printed by wip/gen/rsqrt.py.)
-/
import Derived.Test.YtpflfagjkmeeiaaGreatDoorRPower
import Derived.Test.YtpflfagjkmeeiaaGreatDoorRgx
import Derived.Test.YtpflfagjkmeeiaaGreatDoorRoot
namespace Go.Proofs.YtpflfagjkmeeiaaGreatDoor
open Go Go.RowKit

theorem IsW.gstb (xs : List Nat) : GStb (IsW xs) := fun _ _ _ e ⟨a, n, c, h1, h2⟩ => ⟨a, n, c, h1, h2.gr e⟩
theorem IsW.one (w : World) : IsW [1] (.slice (some ⟨w.heap.size, 0, none⟩) 1 1) (w.alloc (.cells #[.int .u32 1] 63)) := by
  have ho : Own (w.alloc (.cells #[.int .u32 1] 63)) w.heap.size [1] := by
    show (w.heap.push _)[w.heap.size]? = _
    simp [wcells]
  have := ho.wd (fun i => by match i with | 0 => simp | i + 1 => simp) 1 (by simp) (by omega)
  exact ⟨_, _, _, rfl, by simpa using this⟩
theorem left1_f {x : Value} {w : World} (hx : IsW [1] x w) (n : Nat) (hn : n ≤ 17179869184) : Calls Tryz.prog 58 #[x, .int .i64 (n : Nat)] w (Ret w (IsWk (n / 32 + 2) (2 ^ n))) := by
  obtain ⟨a, m, c, rfl, h⟩ := hx
  have hm : m = 1 := h.len.symm
  subst hm
  refine (left_wd w a 1 c n [1] h (by omega) hn).mono ?_
  rintro e w' ⟨v, rfl, e1, xs, hr, hv, hl⟩
  exact ⟨_, rfl, e1, hr.isWk (by omega) (by rw [hv]; simp [natVal])⟩
theorem made_w {x : Value} {w : World} {k m : Nat} (hx : IsWk k m x w) : Calls Tryz.prog 40 #[.bool false, x] w (Ret w (IsI k (m : Int))) := by
  obtain ⟨a, n, c, xs, rfl, h, hk, rfl⟩ := hx
  refine (rmade_c w false a n c xs (natVal xs : Int) h rfl).mono ?_
  rintro e w' h2
  exact h2.ret.mono fun _ _ h => h.mono hk
theorem sqrt_ge (m s r t : Nat) (hs : 0 < s) (hr : r * r ≤ m) (ht : t = (s + m / s) / 2) : r ≤ t := by
  have := newton_ge m s r 1 hs (by rw [Nat.pow_succ, Nat.pow_one]; exact hr)
  rw [Nat.pow_one, Nat.one_mul] at this
  rw [ht]; exact this
theorem sqrt_lt (m s r t : Nat) (hs : r < s) (hr : m < (r + 1) * (r + 1)) (ht : t = (s + m / s) / 2) : t < s := by
  have h2 : (r + 1) * (r + 1) ≤ s * s := Nat.mul_le_mul hs hs
  have := newton_lt m s 1 (by omega) (by rw [Nat.pow_succ, Nat.pow_one]; omega)
  rw [Nat.pow_one, Nat.one_mul] at this
  rw [ht]; exact this
theorem sqrt_le (m s r t : Nat) (ht : t = (s + m / s) / 2) (_hr : r * r ≤ m ∧ m < (r + 1) * (r + 1)) (_h : r ≤ s) (_h0 : 0 < s) : t ≤ max s m := by
  have := Nat.div_le_self m s
  omega

set_option maxRecDepth 100000 in
set_option maxHeartbeats 4000000 in
theorem RSqrtneg_f {k1 : Nat} {z1 : Int} {x : Value} {w : World} (hx : IsI k1 z1 x w) (h0 : z1 < 0) : Calls Tryz.prog 30 #[x] w (Ret w (IsT3 (IsI 0 0) (IsI 0 0) (IsV (.int .i64 1)))) := by
  obtain ⟨s1, a1, n1, c1, rfl, h1⟩ := hx
  have H0 := hid h0
  obtain ⟨W, hW, S⟩ : ∃ W, W = ((w.alloc (.cells #[.bool s1, .slice a1 n1 c1] 27)).alloc (.cells #[.bool false, .slice none 0 0] 27)).alloc (.cells #[.bool false, .slice none 0 0] 27) ∧ St w W [(w.heap.size + 1 + 1, IsI 0 0), (w.heap.size + 1, IsI 0 0), (w.heap.size, IsI k1 z1)] := ⟨_, rfl, ((((St.start w).new' (w.heap.size) (by simp) s1 a1 n1 c1 27 (IsI k1 z1) (IsI.gstb _ _) ⟨_, _, _, _, rfl, h1⟩).new' (w.heap.size + 1) (by simp) false none 0 0 27 (IsI 0 0) (IsI.gstb _ _) (IsI.nil _ _)).new' (w.heap.size + 1 + 1) (by simp) false none 0 0 27 (IsI 0 0) (IsI.gstb _ _) (IsI.nil _ _))⟩
  clear h1
  go_enter Tryz.func30, Tryz.ntmps30
  go_upto_region 1 with (fail)
  rw [← hW]
  clear hW
  refine wp_region_rgs 2 [some 7, some 8] [IsV (.pointer (some ⟨w.heap.size, 0, none⟩)), IsV (.bool true)] [] (by decide) (by kernel_rfl) (by kernel_rfl) (by kernel_rfl) ?_ ?_ ?_ ?_
  · repeat' (first | exact trivial | exact IsV.stb _ | exact IsW.stb _ | exact IsWk.stb _ _ | exact IsI.stb _ _ | exact IsB.stb _ | exact IsR.stb _ _ | exact IsMag.stb _ _ | exact IsPos.stb | apply IsT3.stb | apply IsT2.stb | apply And.intro)
  · exact (fun _ h => by cases h)
  · refine RgAll.cons (by { (with_reducible refine RgL.mk (by rfl) ?_); intro v a w' hE hd hf; have ev0 := hf.lit 1 (.pointer (some ⟨w.heap.size, 0, none⟩)) (by kernel_rfl) (by kernel_rfl); clear hd hf; intro K hK; go_simp; exact hK.out _ _ (Ext.refl _) rfl (FreshIf.no rfl) }) ?_
    refine RgAll.cons (by { (with_reducible refine RgL.mk (by rfl) ?_); intro v a w' hE hd hf; have d0 : v 0 = .pointer (some ⟨w.heap.size, 0, none⟩) := hd 0 (by kernel_rfl); have ev0 := hf.val 0 7 _ d0 (by kernel_rfl) (by kernel_rfl) (by kernel_rfl); clear d0; obtain ⟨s8, a8, n8, c8, b8, h8⟩ := (S.mono hE).at 2 (w.heap.size) (IsI k1 z1) rfl; have L0 := b8.c0; have L1 := b8.c1; obtain rfl := h8.neg' (H0.out); clear hd hf; intro K hK; go_simp; exact hK.out _ _ (Ext.refl _) rfl (FreshIf.no rfl) }) ?_
    exact RgAll.nil
  intro v W1 e1 hΦ _
  replace S := S.mono e1
  have v1 : v 1 = .bool true := hΦ 1 (by decide)
  simp only [layL, Act.put, List.setIfInBounds_toArray, List.set_cons_zero, List.set_cons_succ, Nat.reduceAdd]
  rw [v1]
  clear v1
  clear hΦ
  clear e1
  refine wpList_nil ?_
  go_upto_region 2 with (fail)
  refine wp_region_rgs 2 [some 9, some 10] [IsI 0 0, IsI 0 0] [] (by decide) (by kernel_rfl) (by kernel_rfl) (by kernel_rfl) ?_ ?_ ?_ ?_
  · repeat' (first | exact trivial | exact IsV.stb _ | exact IsW.stb _ | exact IsWk.stb _ _ | exact IsI.stb _ _ | exact IsB.stb _ | exact IsR.stb _ _ | exact IsMag.stb _ _ | exact IsPos.stb | apply IsT3.stb | apply IsT2.stb | apply And.intro)
  · exact (fun _ h => by cases h)
  · refine RgAll.cons (by { (with_reducible refine RgL.mk (by rfl) ?_); intro v a w' hE hd hf; skip; clear hd hf; intro K hK; go_simp; exact hK.out _ _ (Ext.refl _) (IsI.nil _ _) (FreshIf.no rfl) }) ?_
    refine RgAll.cons (by { (with_reducible refine RgL.mk (by rfl) ?_); intro v a w' hE hd hf; skip; clear hd hf; intro K hK; go_simp; exact hK.out _ _ (Ext.refl _) (IsI.nil _ _) (FreshIf.no rfl) }) ?_
    exact RgAll.nil
  intro v W2 e1 hΦ _
  replace S := S.mono e1
  obtain ⟨s9, a9, n9, c9, v0, h9⟩ := (hΦ 0 (by decide) : IsI 0 0 (v 0) W2)
  obtain ⟨s10, a10, n10, c10, v1, h10⟩ := (hΦ 1 (by decide) : IsI 0 0 (v 1) W2)
  simp only [layL, Act.put, List.setIfInBounds_toArray, List.set_cons_zero, List.set_cons_succ, Nat.reduceAdd]
  rw [v0, v1]
  clear v0 v1
  clear hΦ
  clear e1
  obtain ⟨s8, a8, n8, c8, b8, _⟩ := S.at 1 (w.heap.size + 1) (IsI 0 0) rfl; have F1 := b8.c0; have F2 := b8.c1; have F3 := b8.f0; have F4 := b8.f1
  refine wpList_step fun K hK => ?_; go_simp; refine hK _ _ ?_; clear hK K
  clear F1 F2 F3 F4 b8
  obtain ⟨W3, hW, S2, G2, _⟩ := S.put 1 (w.heap.size + 1) (IsI 0 0) (IsI 0 0) rfl s9 a9 n9 c9 (IsI.gstb _ _) ⟨_, _, _, _, rfl, h9⟩
  rw [← hW]; clear hW S
  replace h10 := h10.gr G2
  have S : St w W3 [(w.heap.size + 1 + 1, IsI 0 0), (w.heap.size + 1, IsI 0 0), (w.heap.size, IsI k1 z1)] := S2; clear S2 G2
  clear h9
  obtain ⟨s8, a8, n8, c8, b8, _⟩ := S.at 0 (w.heap.size + 1 + 1) (IsI 0 0) rfl; have F1 := b8.c0; have F2 := b8.c1; have F3 := b8.f0; have F4 := b8.f1
  refine wpList_step fun K hK => ?_; go_simp; refine hK _ _ ?_; clear hK K
  clear F1 F2 F3 F4 b8
  obtain ⟨W4, hW, S2, G2, _⟩ := S.put 0 (w.heap.size + 1 + 1) (IsI 0 0) (IsI 0 0) rfl s10 a10 n10 c10 (IsI.gstb _ _) ⟨_, _, _, _, rfl, h10⟩
  rw [← hW]; clear hW S
  have S : St w W4 [(w.heap.size + 1 + 1, IsI 0 0), (w.heap.size + 1, IsI 0 0), (w.heap.size, IsI k1 z1)] := S2; clear S2 G2
  clear h10
  refine wpList_step fun K hK => ?_; go_simp; refine hK _ _ ?_; clear hK K
  refine wpList_nil ?_
  go_wp2_with fail
  obtain ⟨rs0, ra0, rn0, rc0, rb0, rh0⟩ := S.at 1 (w.heap.size + 1) (IsI 0 0) rfl; have T0 := rb0.c0; have U0 := rb0.c1
  obtain ⟨rs1, ra1, rn1, rc1, rb1, rh1⟩ := S.at 0 (w.heap.size + 1 + 1) (IsI 0 0) rfl; have T1 := rb1.c0; have U1 := rb1.c1
  exact bodyPost_ret (v := .tuple #[.agg #[.bool rs0, .slice ra0 rn0 rc0], .agg #[.bool rs1, .slice ra1 rn1 rc1], .int .i64 1]) (by simp [results, Tryz.results30, go_sem, T0, U0, T1, U1]) rfl (⟨_, rfl, S.ext, _, _, _, rfl, rh0, rh1, rfl⟩)

set_option maxRecDepth 100000 in
set_option maxHeartbeats 4000000 in
theorem RSqrt0_f {k1 : Nat} {x : Value} {w : World} (hx : IsI k1 0 x w) : Calls Tryz.prog 30 #[x] w (Ret w (IsT3 (IsI 0 0) (IsI 0 0) (IsV (.int .i64 0)))) := by
  obtain ⟨s1, a1, n1, c1, rfl, h1⟩ := hx
  have H0 := hid (Int.le_refl 0)
  obtain ⟨W, hW, S⟩ : ∃ W, W = ((w.alloc (.cells #[.bool s1, .slice a1 n1 c1] 27)).alloc (.cells #[.bool false, .slice none 0 0] 27)).alloc (.cells #[.bool false, .slice none 0 0] 27) ∧ St w W [(w.heap.size + 1 + 1, IsI 0 0), (w.heap.size + 1, IsI 0 0), (w.heap.size, IsI k1 0)] := ⟨_, rfl, ((((St.start w).new' (w.heap.size) (by simp) s1 a1 n1 c1 27 (IsI k1 0) (IsI.gstb _ _) ⟨_, _, _, _, rfl, h1⟩).new' (w.heap.size + 1) (by simp) false none 0 0 27 (IsI 0 0) (IsI.gstb _ _) (IsI.nil _ _)).new' (w.heap.size + 1 + 1) (by simp) false none 0 0 27 (IsI 0 0) (IsI.gstb _ _) (IsI.nil _ _))⟩
  clear h1
  go_enter Tryz.func30, Tryz.ntmps30
  go_upto_region 1 with (fail)
  rw [← hW]
  clear hW
  refine wp_region_rgs 2 [some 7, some 8] [IsV (.pointer (some ⟨w.heap.size, 0, none⟩)), IsV (.bool false)] [] (by decide) (by kernel_rfl) (by kernel_rfl) (by kernel_rfl) ?_ ?_ ?_ ?_
  · repeat' (first | exact trivial | exact IsV.stb _ | exact IsW.stb _ | exact IsWk.stb _ _ | exact IsI.stb _ _ | exact IsB.stb _ | exact IsR.stb _ _ | exact IsMag.stb _ _ | exact IsPos.stb | apply IsT3.stb | apply IsT2.stb | apply And.intro)
  · exact (fun _ h => by cases h)
  · refine RgAll.cons (by { (with_reducible refine RgL.mk (by rfl) ?_); intro v a w' hE hd hf; have ev0 := hf.lit 1 (.pointer (some ⟨w.heap.size, 0, none⟩)) (by kernel_rfl) (by kernel_rfl); clear hd hf; intro K hK; go_simp; exact hK.out _ _ (Ext.refl _) rfl (FreshIf.no rfl) }) ?_
    refine RgAll.cons (by { (with_reducible refine RgL.mk (by rfl) ?_); intro v a w' hE hd hf; have d0 : v 0 = .pointer (some ⟨w.heap.size, 0, none⟩) := hd 0 (by kernel_rfl); have ev0 := hf.val 0 7 _ d0 (by kernel_rfl) (by kernel_rfl) (by kernel_rfl); clear d0; obtain ⟨s8, a8, n8, c8, b8, h8⟩ := (S.mono hE).at 2 (w.heap.size) (IsI k1 0) rfl; have L0 := b8.c0; have L1 := b8.c1; obtain rfl := h8.pos' (H0.out); clear hd hf; intro K hK; go_simp; exact hK.out _ _ (Ext.refl _) rfl (FreshIf.no rfl) }) ?_
    exact RgAll.nil
  intro v W1 e1 hΦ _
  replace S := S.mono e1
  have v1 : v 1 = .bool false := hΦ 1 (by decide)
  simp only [layL, Act.put, List.setIfInBounds_toArray, List.set_cons_zero, List.set_cons_succ, Nat.reduceAdd]
  rw [v1]
  clear v1
  clear hΦ
  clear e1
  refine wpList_nil ?_
  go_upto_region 3 with (fail)
  refine wp_region_rgs 4 [some 11, some 12, some 13, some 14] [IsV (.pointer (some ⟨w.heap.size, 1, none⟩)), IsMag k1 0, IsV (.int .i64 0), IsV (.bool true)] [] (by decide) (by kernel_rfl) (by kernel_rfl) (by kernel_rfl) ?_ ?_ ?_ ?_
  · repeat' (first | exact trivial | exact IsV.stb _ | exact IsW.stb _ | exact IsWk.stb _ _ | exact IsI.stb _ _ | exact IsB.stb _ | exact IsR.stb _ _ | exact IsMag.stb _ _ | exact IsPos.stb | apply IsT3.stb | apply IsT2.stb | apply And.intro)
  · exact (fun _ h => by cases h)
  · refine RgAll.cons (by { (with_reducible refine RgL.mk (by rfl) ?_); intro v a w' hE hd hf; have ev0 := hf.lit 1 (.pointer (some ⟨w.heap.size, 0, none⟩)) (by kernel_rfl) (by kernel_rfl); clear hd hf; intro K hK; go_simp; exact hK.out _ _ (Ext.refl _) rfl (FreshIf.no rfl) }) ?_
    refine RgAll.cons (by { (with_reducible refine RgL.mk (by rfl) ?_); intro v a w' hE hd hf; have d0 : v 0 = .pointer (some ⟨w.heap.size, 1, none⟩) := hd 0 (by kernel_rfl); have ev0 := hf.val 0 11 _ d0 (by kernel_rfl) (by kernel_rfl) (by kernel_rfl); clear d0; obtain ⟨s8, a8, n8, c8, b8, h8⟩ := (S.mono hE).at 2 (w.heap.size) (IsI k1 0) rfl; have L0 := b8.c0; have L1 := b8.c1; obtain ⟨s9, a9, n9, c9, k9, h9⟩ := h8; injection k9 with k9; simp only [Array.mk.injEq, List.cons.injEq, Value.bool.injEq, Value.slice.injEq, and_true] at k9; obtain ⟨rfl, rfl, rfl, rfl⟩ := k9; clear hd hf; intro K hK; go_simp; exact hK.out _ _ (Ext.refl _) ⟨_, _, _, _, rfl, h9⟩ (FreshIf.no rfl) }) ?_
    refine RgAll.cons (by { (with_reducible refine RgL.mk (by rfl) ?_); intro v a w' hE hd hf; have d0 : (IsMag k1 0) (v 1) w' := hd 1 (by kernel_rfl); obtain ⟨s9, a9, n9, c9, z0, h9⟩ := d0; have ev0 := hf.val 1 12 _ z0 (by kernel_rfl) (by kernel_rfl) (by kernel_rfl); clear z0; obtain rfl : n9 = 0 := h9.zero_iff.1 (rfl); clear hd hf; intro K hK; go_simp; exact hK.out _ _ (Ext.refl _) rfl (FreshIf.no rfl) }) ?_
    refine RgAll.cons (by { (with_reducible refine RgL.mk (by rfl) ?_); intro v a w' hE hd hf; have d0 : v 2 = .int .i64 0 := hd 2 (by kernel_rfl); have ev0 := hf.val 2 13 _ d0 (by kernel_rfl) (by kernel_rfl) (by kernel_rfl); clear d0; clear hd hf; intro K hK; go_simp; exact hK.out _ _ (Ext.refl _) rfl (FreshIf.no rfl) }) ?_
    exact RgAll.nil
  intro v W2 e1 hΦ _
  replace S := S.mono e1
  have v3 : v 3 = .bool true := hΦ 3 (by decide)
  simp only [layL, Act.put, List.setIfInBounds_toArray, List.set_cons_zero, List.set_cons_succ, Nat.reduceAdd]
  rw [v3]
  clear v3
  clear hΦ
  clear e1
  refine wpList_nil ?_
  go_upto_region 4 with (fail)
  refine wp_region_rgs 2 [some 15, some 16] [IsI 0 0, IsI 0 0] [] (by decide) (by kernel_rfl) (by kernel_rfl) (by kernel_rfl) ?_ ?_ ?_ ?_
  · repeat' (first | exact trivial | exact IsV.stb _ | exact IsW.stb _ | exact IsWk.stb _ _ | exact IsI.stb _ _ | exact IsB.stb _ | exact IsR.stb _ _ | exact IsMag.stb _ _ | exact IsPos.stb | apply IsT3.stb | apply IsT2.stb | apply And.intro)
  · exact (fun _ h => by cases h)
  · refine RgAll.cons (by { (with_reducible refine RgL.mk (by rfl) ?_); intro v a w' hE hd hf; skip; clear hd hf; intro K hK; go_simp; exact hK.out _ _ (Ext.refl _) (IsI.nil _ _) (FreshIf.no rfl) }) ?_
    refine RgAll.cons (by { (with_reducible refine RgL.mk (by rfl) ?_); intro v a w' hE hd hf; skip; clear hd hf; intro K hK; go_simp; exact hK.out _ _ (Ext.refl _) (IsI.nil _ _) (FreshIf.no rfl) }) ?_
    exact RgAll.nil
  intro v W3 e1 hΦ _
  replace S := S.mono e1
  obtain ⟨s15, a15, n15, c15, v0, h15⟩ := (hΦ 0 (by decide) : IsI 0 0 (v 0) W3)
  obtain ⟨s16, a16, n16, c16, v1, h16⟩ := (hΦ 1 (by decide) : IsI 0 0 (v 1) W3)
  simp only [layL, Act.put, List.setIfInBounds_toArray, List.set_cons_zero, List.set_cons_succ, Nat.reduceAdd]
  rw [v0, v1]
  clear v0 v1
  clear hΦ
  clear e1
  obtain ⟨s8, a8, n8, c8, b8, _⟩ := S.at 1 (w.heap.size + 1) (IsI 0 0) rfl; have F1 := b8.c0; have F2 := b8.c1; have F3 := b8.f0; have F4 := b8.f1
  refine wpList_step fun K hK => ?_; go_simp; refine hK _ _ ?_; clear hK K
  clear F1 F2 F3 F4 b8
  obtain ⟨W4, hW, S2, G2, _⟩ := S.put 1 (w.heap.size + 1) (IsI 0 0) (IsI 0 0) rfl s15 a15 n15 c15 (IsI.gstb _ _) ⟨_, _, _, _, rfl, h15⟩
  rw [← hW]; clear hW S
  replace h16 := h16.gr G2
  have S : St w W4 [(w.heap.size + 1 + 1, IsI 0 0), (w.heap.size + 1, IsI 0 0), (w.heap.size, IsI k1 0)] := S2; clear S2 G2
  clear h15
  obtain ⟨s8, a8, n8, c8, b8, _⟩ := S.at 0 (w.heap.size + 1 + 1) (IsI 0 0) rfl; have F1 := b8.c0; have F2 := b8.c1; have F3 := b8.f0; have F4 := b8.f1
  refine wpList_step fun K hK => ?_; go_simp; refine hK _ _ ?_; clear hK K
  clear F1 F2 F3 F4 b8
  obtain ⟨W5, hW, S2, G2, _⟩ := S.put 0 (w.heap.size + 1 + 1) (IsI 0 0) (IsI 0 0) rfl s16 a16 n16 c16 (IsI.gstb _ _) ⟨_, _, _, _, rfl, h16⟩
  rw [← hW]; clear hW S
  have S : St w W5 [(w.heap.size + 1 + 1, IsI 0 0), (w.heap.size + 1, IsI 0 0), (w.heap.size, IsI k1 0)] := S2; clear S2 G2
  clear h16
  refine wpList_step fun K hK => ?_; go_simp; refine hK _ _ ?_; clear hK K
  refine wpList_nil ?_
  go_wp2_with fail
  obtain ⟨rs0, ra0, rn0, rc0, rb0, rh0⟩ := S.at 1 (w.heap.size + 1) (IsI 0 0) rfl; have T0 := rb0.c0; have U0 := rb0.c1
  obtain ⟨rs1, ra1, rn1, rc1, rb1, rh1⟩ := S.at 0 (w.heap.size + 1 + 1) (IsI 0 0) rfl; have T1 := rb1.c0; have U1 := rb1.c1
  exact bodyPost_ret (v := .tuple #[.agg #[.bool rs0, .slice ra0 rn0 rc0], .agg #[.bool rs1, .slice ra1 rn1 rc1], .int .i64 0]) (by simp [results, Tryz.results30, go_sem, T0, U0, T1, U1]) rfl (⟨_, rfl, S.ext, _, _, _, rfl, rh0, rh1, rfl⟩)

set_option maxRecDepth 100000 in
set_option maxHeartbeats 4000000 in
theorem RSqrt1_f {k1 m : Nat} {x : Value} {w : World} (hx : IsI k1 (m : Int) x w) (l1 : k1 ≤ 1048576) (hm : 0 < m) (r : Nat) (hr : r * r ≤ m ∧ m < (r + 1) * (r + 1)) : Calls Tryz.prog 30 #[x] w (Ret w (IsT3 (IsI k1 (r : Int)) (IsI k1 ((m : Int) - (r : Int) * (r : Int))) (IsV (.int .i64 0)))) := by
  have sz1 := hid hx.size
  obtain ⟨s1, a1, n1, c1, rfl, h1⟩ := hx
  have H0 := hid (Int.natCast_nonneg m)
  have HP := hid (show (m : Int) ≠ 0 by omega)
  have HR := hid hr
  obtain ⟨b, hb⟩ : ∃ b, b = bitLen m := ⟨_, rfl⟩
  have HB := hid (show bitLen ((m : Nat) : Int).natAbs = b by rw [Int.natAbs_natCast]; exact hb.symm)
  have hbl : b ≤ 32 * k1 := by
    have h := sz1.out
    rw [Int.natAbs_natCast] at h
    rw [hb]; exact bitLen_le m k1 h
  obtain ⟨q, hq⟩ : ∃ q, q = (b + 1) / 2 := ⟨_, rfl⟩
  have HW1 := hid (show IntKind.i64.wrap ((b : Int) + 1) = (b : Int) + 1 by simp only [IntKind.wrap_i64]; omega)
  have HQ := hid (show ((b : Int) + 1) / 2 = (q : Int) ∧ ((b : Int) + 1).tdiv 2 = (q : Int) by rw [Int.tdiv_eq_ediv_of_nonneg (by omega)]; omega)
  have HQW := hid (show IntKind.i64.wrap (q : Int) = (q : Int) by simp only [IntKind.wrap_i64]; omega)
  have HQL := hid (show q ≤ 32 * k1 + 1 by omega)
  have HS0 := hid (show ((2 ^ q : Nat) : Int).natAbs < 4294967296 ^ (k1 + 1) by
    rw [Int.natAbs_natCast, show (4294967296 : Nat) = 2 ^ 32 from rfl, ← Nat.pow_mul]
    exact Nat.pow_lt_pow_right (by decide) (by omega))
  have HQ2 := hid (show 0 < 2 ^ q ∧ r ≤ 2 ^ q from ⟨Nat.pos_of_ne_zero (by simp), by
    rcases Nat.lt_or_ge (2 ^ q) r with h | h
    · exfalso
      obtain ⟨k, h1, _, h3⟩ := bitLen_bounds m (by omega)
      have h4 : 2 ^ q * 2 ^ q ≤ r * r := Nat.mul_le_mul (by omega) (by omega)
      rw [← Nat.pow_add] at h4
      have h5 : 2 ^ (k + 1) ≤ 2 ^ (q + q) := Nat.pow_le_pow_right (by decide) (by omega)
      omega
    · exact h⟩)
  have HR1 := hid (show 0 < r by
    rcases Nat.eq_zero_or_pos r with h | h
    · subst h; omega
    · exact h)
  clear hb hq hr
  obtain ⟨W, hW, S⟩ : ∃ W, W = ((w.alloc (.cells #[.bool s1, .slice a1 n1 c1] 27)).alloc (.cells #[.bool false, .slice none 0 0] 27)).alloc (.cells #[.bool false, .slice none 0 0] 27) ∧ St w W [(w.heap.size + 1 + 1, IsI 0 0), (w.heap.size + 1, IsI 0 0), (w.heap.size, IsI k1 ((m : Int)))] := ⟨_, rfl, ((((St.start w).new' (w.heap.size) (by simp) s1 a1 n1 c1 27 (IsI k1 ((m : Int))) (IsI.gstb _ _) ⟨_, _, _, _, rfl, h1⟩).new' (w.heap.size + 1) (by simp) false none 0 0 27 (IsI 0 0) (IsI.gstb _ _) (IsI.nil _ _)).new' (w.heap.size + 1 + 1) (by simp) false none 0 0 27 (IsI 0 0) (IsI.gstb _ _) (IsI.nil _ _))⟩
  clear h1
  go_enter Tryz.func30, Tryz.ntmps30
  go_upto_region 1 with (fail)
  rw [← hW]
  clear hW
  refine wp_region_rgs 2 [some 7, some 8] [IsV (.pointer (some ⟨w.heap.size, 0, none⟩)), IsV (.bool false)] [] (by decide) (by kernel_rfl) (by kernel_rfl) (by kernel_rfl) ?_ ?_ ?_ ?_
  · repeat' (first | exact trivial | exact IsV.stb _ | exact IsW.stb _ | exact IsWk.stb _ _ | exact IsI.stb _ _ | exact IsB.stb _ | exact IsR.stb _ _ | exact IsMag.stb _ _ | exact IsPos.stb | apply IsT3.stb | apply IsT2.stb | apply And.intro)
  · exact (fun _ h => by cases h)
  · refine RgAll.cons (by { (with_reducible refine RgL.mk (by rfl) ?_); intro v a w' hE hd hf; have ev0 := hf.lit 1 (.pointer (some ⟨w.heap.size, 0, none⟩)) (by kernel_rfl) (by kernel_rfl); clear hd hf; intro K hK; go_simp; exact hK.out _ _ (Ext.refl _) rfl (FreshIf.no rfl) }) ?_
    refine RgAll.cons (by { (with_reducible refine RgL.mk (by rfl) ?_); intro v a w' hE hd hf; have d0 : v 0 = .pointer (some ⟨w.heap.size, 0, none⟩) := hd 0 (by kernel_rfl); have ev0 := hf.val 0 7 _ d0 (by kernel_rfl) (by kernel_rfl) (by kernel_rfl); clear d0; obtain ⟨s8, a8, n8, c8, b8, h8⟩ := (S.mono hE).at 2 (w.heap.size) (IsI k1 ((m : Int))) rfl; have L0 := b8.c0; have L1 := b8.c1; obtain rfl := h8.pos' (H0.out); clear hd hf; intro K hK; go_simp; exact hK.out _ _ (Ext.refl _) rfl (FreshIf.no rfl) }) ?_
    exact RgAll.nil
  intro v W1 e1 hΦ _
  replace S := S.mono e1
  have v1 : v 1 = .bool false := hΦ 1 (by decide)
  simp only [layL, Act.put, List.setIfInBounds_toArray, List.set_cons_zero, List.set_cons_succ, Nat.reduceAdd]
  rw [v1]
  clear v1
  clear hΦ
  clear e1
  refine wpList_nil ?_
  go_upto_region 3 with (fail)
  refine wp_region_rgs 4 [some 11, some 12, some 13, some 14] [IsV (.pointer (some ⟨w.heap.size, 1, none⟩)), IsMag k1 ((m : Int)), IsPos, IsV (.bool false)] [] (by decide) (by kernel_rfl) (by kernel_rfl) (by kernel_rfl) ?_ ?_ ?_ ?_
  · repeat' (first | exact trivial | exact IsV.stb _ | exact IsW.stb _ | exact IsWk.stb _ _ | exact IsI.stb _ _ | exact IsB.stb _ | exact IsR.stb _ _ | exact IsMag.stb _ _ | exact IsPos.stb | apply IsT3.stb | apply IsT2.stb | apply And.intro)
  · exact (fun _ h => by cases h)
  · refine RgAll.cons (by { (with_reducible refine RgL.mk (by rfl) ?_); intro v a w' hE hd hf; have ev0 := hf.lit 1 (.pointer (some ⟨w.heap.size, 0, none⟩)) (by kernel_rfl) (by kernel_rfl); clear hd hf; intro K hK; go_simp; exact hK.out _ _ (Ext.refl _) rfl (FreshIf.no rfl) }) ?_
    refine RgAll.cons (by { (with_reducible refine RgL.mk (by rfl) ?_); intro v a w' hE hd hf; have d0 : v 0 = .pointer (some ⟨w.heap.size, 1, none⟩) := hd 0 (by kernel_rfl); have ev0 := hf.val 0 11 _ d0 (by kernel_rfl) (by kernel_rfl) (by kernel_rfl); clear d0; obtain ⟨s8, a8, n8, c8, b8, h8⟩ := (S.mono hE).at 2 (w.heap.size) (IsI k1 ((m : Int))) rfl; have L0 := b8.c0; have L1 := b8.c1; obtain ⟨s9, a9, n9, c9, k9, h9⟩ := h8; injection k9 with k9; simp only [Array.mk.injEq, List.cons.injEq, Value.bool.injEq, Value.slice.injEq, and_true] at k9; obtain ⟨rfl, rfl, rfl, rfl⟩ := k9; clear hd hf; intro K hK; go_simp; exact hK.out _ _ (Ext.refl _) ⟨_, _, _, _, rfl, h9⟩ (FreshIf.no rfl) }) ?_
    refine RgAll.cons (by { (with_reducible refine RgL.mk (by rfl) ?_); intro v a w' hE hd hf; have d0 : (IsMag k1 ((m : Int))) (v 1) w' := hd 1 (by kernel_rfl); obtain ⟨s9, a9, n9, c9, z0, h9⟩ := d0; have ev0 := hf.val 1 12 _ z0 (by kernel_rfl) (by kernel_rfl) (by kernel_rfl); clear z0; clear hd hf; intro K hK; go_simp; exact hK.out _ _ (Ext.refl _) ⟨n9, rfl, Nat.pos_of_ne_zero (fun h0 => (HP.out) (h9.zero_iff.2 h0)), h9.len⟩ (FreshIf.no rfl) }) ?_
    refine RgAll.cons (by { (with_reducible refine RgL.mk (by rfl) ?_); intro v a w' hE hd hf; have d0 : IsPos (v 2) w' := hd 2 (by kernel_rfl); obtain ⟨n9, z0, p9, q9⟩ := d0; have ev0 := hf.val 2 13 _ z0 (by kernel_rfl) (by kernel_rfl) (by kernel_rfl); clear z0; have hb9 : ((n9 : Int) == 0) = false := (by rw [beq_eq_false_iff_ne]; omega); have hb8 : decide ((0 : Int) < (n9 : Int)) = true := (by simp; omega); have hb7 : decide (0 < n9) = true := (by simp; omega); have hb6 : (n9 == 0) = false := (by rw [beq_eq_false_iff_ne]; omega); clear hd hf; intro K hK; go_simp; exact hK.out _ _ (Ext.refl _) rfl (FreshIf.no rfl) }) ?_
    exact RgAll.nil
  intro v W2 e1 hΦ _
  replace S := S.mono e1
  have v3 : v 3 = .bool false := hΦ 3 (by decide)
  simp only [layL, Act.put, List.setIfInBounds_toArray, List.set_cons_zero, List.set_cons_succ, Nat.reduceAdd]
  rw [v3]
  clear v3
  clear hΦ
  clear e1
  refine wpList_nil ?_
  go_upto_region 5 with (fail)
  have hl := hid S.lt; have hw := S.ext.size
  refine wp_region_rgs 8 [some 17, some 18, some 19, some 20, some 21, some 22, some 23, some 5] [IsW [1], IsI k1 ((m : Int)), IsV (.int .i64 (b : Nat)), IsV (.int .i64 ((b : Nat) + 1)), IsV (.int .i64 (q : Nat)), IsWk (q / 32 + 2) (2 ^ q), IsI (k1 + 1) (((2 ^ q : Nat) : Int)), IsB W2] [7] (by decide) (by kernel_rfl) (by kernel_rfl) (by kernel_rfl) ?_ ?_ ?_ ?_
  · repeat' (first | exact trivial | exact IsV.stb _ | exact IsW.stb _ | exact IsWk.stb _ _ | exact IsI.stb _ _ | exact IsB.stb _ | exact IsR.stb _ _ | exact IsMag.stb _ _ | exact IsPos.stb | apply IsT3.stb | apply IsT2.stb | apply And.intro)
  · intro i hi; simp only [List.mem_cons, List.not_mem_nil, or_false] at hi; subst hi; exact IsB.box _
  · refine RgAll.cons (by { (with_reducible refine RgL.mk (by rfl) ?_); intro v a w' hE hd hf; skip; clear hd hf; intro K hK; go_simp; exact hK.out _ _ ((Ext.refl _).alloc _) (IsW.one w') (FreshIf.no rfl) }) ?_
    refine RgAll.cons (by { (with_reducible refine RgL.mk (by rfl) ?_); intro v a w' hE hd hf; have ev0 := hf.lit 1 (.pointer (some ⟨w.heap.size, 0, none⟩)) (by kernel_rfl) (by kernel_rfl); obtain ⟨s8, a8, n8, c8, b8, h8⟩ := (S.mono hE).at 2 (w.heap.size) (IsI k1 ((m : Int))) rfl; have L0 := b8.c0; have L1 := b8.c1; clear hd hf; intro K hK; go_simp; exact hK.out _ _ (Ext.refl _) h8 (FreshIf.no rfl) }) ?_
    refine RgAll.cons (by { (with_reducible refine RgL.mk (by rfl) ?_); intro v a w' hE hd hf; have d0 : (IsI k1 ((m : Int))) (v 1) w' := hd 1 (by kernel_rfl); have ev0 := hf.val 1 18 _ rfl (by kernel_rfl) (by kernel_rfl) (by kernel_rfl); clear hd hf; intro K hK; go_simp; go_at_call 28; go_split_ands; (with_reducible refine Calls.mono ((by have hh := RBits_f d0 (by omega); rw [HB.out] at hh; exact hh)) ?_); rintro e w2 ⟨x, rfl, e2, hx⟩; exact hK.out _ _ e2 hx (FreshIf.no rfl) }) ?_
    refine RgAll.cons (by { (with_reducible refine RgL.mk (by rfl) ?_); intro v a w' hE hd hf; have d0 : v 2 = .int .i64 (b : Nat) := hd 2 (by kernel_rfl); have ev0 := hf.val 2 19 _ d0 (by kernel_rfl) (by kernel_rfl) (by kernel_rfl); clear d0; have hw9 := HW1.out; clear hd hf; intro K hK; go_simp; exact hK.out _ _ (Ext.refl _) rfl (FreshIf.no rfl) }) ?_
    refine RgAll.cons (by { (with_reducible refine RgL.mk (by rfl) ?_); intro v a w' hE hd hf; have d0 : v 3 = .int .i64 ((b : Nat) + 1) := hd 3 (by kernel_rfl); have ev0 := hf.val 3 20 _ d0 (by kernel_rfl) (by kernel_rfl) (by kernel_rfl); clear d0; have hw9 := HQ.out.1; have hw8 := HQ.out.2; have hw7 := HQW.out; clear hd hf; intro K hK; go_simp; exact hK.out _ _ (Ext.refl _) rfl (FreshIf.no rfl) }) ?_
    refine RgAll.cons (by { (with_reducible refine RgL.mk (by rfl) ?_); intro v a w' hE hd hf; have d0 : (IsW [1]) (v 0) w' := hd 0 (by kernel_rfl); have ev0 := hf.val 0 17 _ rfl (by kernel_rfl) (by kernel_rfl) (by kernel_rfl); have d1 : v 4 = .int .i64 (q : Nat) := hd 4 (by kernel_rfl); have ev1 := hf.val 4 21 _ d1 (by kernel_rfl) (by kernel_rfl) (by kernel_rfl); clear d1; clear hd hf; intro K hK; go_simp; go_at_call 58; go_split_ands; (with_reducible refine Calls.mono (left1_f d0 q (by have := HQL.out; omega)) ?_); rintro e w2 ⟨x, rfl, e2, hx⟩; exact hK.out _ _ e2 hx (FreshIf.no rfl) }) ?_
    refine RgAll.cons (by { (with_reducible refine RgL.mk (by rfl) ?_); intro v a w' hE hd hf; have d1 : (IsWk (q / 32 + 2) (2 ^ q)) (v 5) w' := hd 5 (by kernel_rfl); have ev1 := hf.val 5 22 _ rfl (by kernel_rfl) (by kernel_rfl) (by kernel_rfl); clear hd hf; intro K hK; go_simp; go_at_call 40; go_split_ands; (with_reducible refine Calls.mono (Calls.mono (made_w d1) fun _ _ h => h.mono fun _ _ h => h.tight (k' := k1 + 1) HS0.out) ?_); rintro e w2 ⟨x, rfl, e2, hx⟩; exact hK.out _ _ e2 hx (FreshIf.no rfl) }) ?_
    refine RgAll.cons (by { (with_reducible refine RgL.mk (by rfl) ?_); intro v a w' hE hd hf; skip; clear hd hf; intro K hK; go_simp; refine hK.out _ _ ((Ext.refl _).alloc _) ⟨_, rfl, hE.size, Bx.new _ _ _ _ _⟩ FreshIf.yes }) ?_
    exact RgAll.nil
  intro v W3 e1 hΦ _
  replace S := S.mono e1
  obtain ⟨s23, a23, n23, c23, v6, h23⟩ := (hΦ 6 (by decide) : IsI (k1 + 1) (((2 ^ q : Nat) : Int)) (v 6) W3)
  obtain ⟨g5, v7, q2, b1⟩ := (hΦ 7 (by decide) : IsB W2 (v 7) W3)
  replace S := S.addN (Apart.old hl.out q2) (Nat.le_trans hw q2) b1
  clear b1
  simp only [layL, Act.put, List.setIfInBounds_toArray, List.set_cons_zero, List.set_cons_succ, Nat.reduceAdd]
  rw [v6, v7]
  clear v6 v7
  clear hΦ
  clear hl hw
  clear e1
  obtain ⟨s8, a8, n8, c8, b8, _⟩ := S.at 0 (g5) (IsI 0 0) rfl; have F1 := b8.c0; have F2 := b8.c1; have F3 := b8.f0; have F4 := b8.f1
  refine wpList_step fun K hK => ?_; go_simp; refine hK _ _ ?_; clear hK K
  clear F1 F2 F3 F4 b8
  obtain ⟨W4, hW, S2, G2, _⟩ := S.put 0 (g5) (IsI 0 0) (IsI (k1 + 1) (((2 ^ q : Nat) : Int))) rfl s23 a23 n23 c23 (IsI.gstb _ _) ⟨_, _, _, _, rfl, h23⟩
  rw [← hW]; clear hW S
  have S : St w W4 [(g5, IsI (k1 + 1) (((2 ^ q : Nat) : Int))), (w.heap.size + 1 + 1, IsI 0 0), (w.heap.size + 1, IsI 0 0), (w.heap.size, IsI k1 ((m : Int)))] := S2; clear S2 G2
  clear h23
  refine wpList_nil ?_
  go_wp2_with fail
  have S0 := hid S; clear S
  go_loopg [] (2 ^ q) (fun gk wr => 0 < gk ∧ gk ≤ 2 ^ q ∧ r ≤ gk ∧ Hid (St w wr [(g5, IsI (k1 + 1) ((gk : Nat) : Int)), (w.heap.size + 1 + 1, IsI 0 0), (w.heap.size + 1, IsI 0 0), (w.heap.size, IsI k1 (m : Int))]))
  case atStart => exact ⟨HQ2.out.1, Nat.le_refl _, HQ2.out.2, S0⟩
  case round =>
    clear S0
    obtain ⟨hg0, hg1, hg2, S⟩ := hrel
    have S := S.out
    obtain ⟨t, ht⟩ : ∃ t, t = (gk + m / gk) / 2 := ⟨_, rfl⟩
    have HT := hid (show (((gk : Nat) : Int) + ((m : Nat) : Int) / ((gk : Nat) : Int)) / 2 = ((t : Nat) : Int) by rw [ht]; simp)
    have HG0 := hid (show ((gk : Nat) : Int) ≠ 0 by omega)
    have hge := hid (sqrt_ge m gk r t hg0 HR.out.1 ht)
    have HGK := hid (show ((gk : Nat) : Int).natAbs < 4294967296 ^ (k1 + 1) by rw [Int.natAbs_natCast]; have := HS0.out; rw [Int.natAbs_natCast] at this; omega)
    have htl := sqrt_le m gk r t ht HR.out hg2 hg0
    have HTT := hid (show ((t : Nat) : Int).natAbs < 4294967296 ^ (k1 + 1) by rw [Int.natAbs_natCast]; have h1 := HGK.out; have h2 := sz1.out; rw [Int.natAbs_natCast] at h1 h2; have h3 : (4294967296 : Nat) ^ k1 ≤ 4294967296 ^ (k1 + 1) := Nat.pow_le_pow_right (by decide) (by omega); omega)
    clear htl
    rcases Nat.lt_or_ge r gk with hlt | hlt
    · have HLT := hid (sqrt_lt m gk r t hlt HR.out.2 ht)
      have HGE := hid hge.out
      have HG1 := hid hg1
      obtain ⟨c, hc⟩ : ∃ c, c = cmpI ((t : Nat) : Int) ((gk : Nat) : Int) := ⟨_, rfl⟩
      have HC := hid (show cmpI ((t : Nat) : Int) ((gk : Nat) : Int) = c ∧ decide (0 ≤ c) = false from ⟨hc.symm, by have := HLT.out; rw [hc, cmpI_lt (by omega)]; decide⟩)
      clear hc hlt hge ht hg0 hg1 hg2
      go_upto_region 6 with (fail)
      have hl := hid S.lt; have hw := S.ext.size
      refine wp_region_rg 8 [some 24, some 25, some 26, some 27, some 28, some 29, some 30, some 6] [IsI (k1 + 1) (((gk : Nat) : Int)), IsI k1 ((m : Int)), IsI (k1 + 1) (((gk : Nat) : Int)), IsI k1 ((m : Int) / ((gk : Nat) : Int)), IsI (max (k1 + 1) k1 + 1) (((gk : Nat) : Int) + (m : Int) / ((gk : Nat) : Int)), IsI 2 2, IsI (k1 + 1) (((t : Nat) : Int)), IsB wr] [7] 1 (by kernel_rfl) (by decide) (by kernel_rfl) (by kernel_rfl) (by kernel_rfl) (by kernel_rfl) (by kernel_rfl) ?_ ?_ ?_ ?_
      · repeat' (first | exact trivial | exact IsV.stb _ | exact IsW.stb _ | exact IsWk.stb _ _ | exact IsI.stb _ _ | exact IsB.stb _ | exact IsR.stb _ _ | exact IsMag.stb _ _ | exact IsPos.stb | apply IsT3.stb | apply IsT2.stb | apply And.intro)
      · intro i hi; simp only [List.mem_cons, List.not_mem_nil, or_false] at hi; subst hi; exact IsB.box _
      · refine RgAll.cons (by { (with_reducible refine RgL.mk (by rfl) ?_); intro v a w' hE hd hf; have ev0 := hf.lit 5 (.pointer (some ⟨g5, 0, none⟩)) (by kernel_rfl) (by kernel_rfl); obtain ⟨s8, a8, n8, c8, b8, h8⟩ := (S.mono hE).at 0 (g5) (IsI (k1 + 1) (((gk : Nat) : Int))) rfl; have L0 := b8.c0; have L1 := b8.c1; clear hd hf; intro K hK; go_simp; exact hK.out _ _ (Ext.refl _) h8 (FreshIf.no rfl) }) ?_
        refine RgAll.cons (by { (with_reducible refine RgL.mk (by rfl) ?_); intro v a w' hE hd hf; have ev0 := hf.lit 1 (.pointer (some ⟨w.heap.size, 0, none⟩)) (by kernel_rfl) (by kernel_rfl); obtain ⟨s8, a8, n8, c8, b8, h8⟩ := (S.mono hE).at 3 (w.heap.size) (IsI k1 ((m : Int))) rfl; have L0 := b8.c0; have L1 := b8.c1; clear hd hf; intro K hK; go_simp; exact hK.out _ _ (Ext.refl _) h8 (FreshIf.no rfl) }) ?_
        refine RgAll.cons (by { (with_reducible refine RgL.mk (by rfl) ?_); intro v a w' hE hd hf; have ev0 := hf.lit 5 (.pointer (some ⟨g5, 0, none⟩)) (by kernel_rfl) (by kernel_rfl); obtain ⟨s8, a8, n8, c8, b8, h8⟩ := (S.mono hE).at 0 (g5) (IsI (k1 + 1) (((gk : Nat) : Int))) rfl; have L0 := b8.c0; have L1 := b8.c1; clear hd hf; intro K hK; go_simp; exact hK.out _ _ (Ext.refl _) h8 (FreshIf.no rfl) }) ?_
        refine RgAll.cons (by { (with_reducible refine RgL.mk (by rfl) ?_); intro v a w' hE hd hf; have d0 : (IsI k1 ((m : Int))) (v 1) w' := hd 1 (by kernel_rfl); have ev0 := hf.val 1 25 _ rfl (by kernel_rfl) (by kernel_rfl) (by kernel_rfl); have d1 : (IsI (k1 + 1) (((gk : Nat) : Int))) (v 2) w' := hd 2 (by kernel_rfl); have ev1 := hf.val 2 26 _ rfl (by kernel_rfl) (by kernel_rfl) (by kernel_rfl); clear hd hf; intro K hK; go_simp; go_at_call 47; go_split_ands; (with_reducible refine Calls.mono (RDiv_f d0 d1 (by omega) (by omega) HG0.out) ?_); rintro e w2 ⟨x, rfl, e2, hx⟩; exact hK.out _ _ e2 hx (FreshIf.no rfl) }) ?_
        refine RgAll.cons (by { (with_reducible refine RgL.mk (by rfl) ?_); intro v a w' hE hd hf; have d0 : (IsI (k1 + 1) (((gk : Nat) : Int))) (v 0) w' := hd 0 (by kernel_rfl); have ev0 := hf.val 0 24 _ rfl (by kernel_rfl) (by kernel_rfl) (by kernel_rfl); have d1 : (IsI k1 ((m : Int) / ((gk : Nat) : Int))) (v 3) w' := hd 3 (by kernel_rfl); have ev1 := hf.val 3 27 _ rfl (by kernel_rfl) (by kernel_rfl) (by kernel_rfl); clear hd hf; intro K hK; go_simp; go_at_call 14; go_split_ands; (with_reducible refine Calls.mono (RAdd_f d0 d1 (by omega) (by omega)) ?_); rintro e w2 ⟨x, rfl, e2, hx⟩; exact hK.out _ _ e2 hx (FreshIf.no rfl) }) ?_
        refine RgAll.cons (by { (with_reducible refine RgL.mk (by rfl) ?_); intro v a w' hE hd hf; skip; clear hd hf; intro K hK; go_simp; go_at_call 35; go_split_ands; (with_reducible refine Calls.mono (ROf_f _ 2 (by decide) (by decide)) ?_); rintro e w2 ⟨x, rfl, e2, hx⟩; exact hK.out _ _ e2 hx (FreshIf.no rfl) }) ?_
        refine RgAll.cons (by { (with_reducible refine RgL.mk (by rfl) ?_); intro v a w' hE hd hf; have d0 : (IsI (max (k1 + 1) k1 + 1) (((gk : Nat) : Int) + (m : Int) / ((gk : Nat) : Int))) (v 4) w' := hd 4 (by kernel_rfl); have ev0 := hf.val 4 28 _ rfl (by kernel_rfl) (by kernel_rfl) (by kernel_rfl); have d1 : (IsI 2 2) (v 5) w' := hd 5 (by kernel_rfl); have ev1 := hf.val 5 29 _ rfl (by kernel_rfl) (by kernel_rfl) (by kernel_rfl); clear hd hf; intro K hK; go_simp; go_at_call 47; go_split_ands; (with_reducible refine Calls.mono (Calls.mono (RDiv_f d0 d1 (by omega) (by omega) (by decide)) fun _ _ h => (h.eqz HT.out).mono fun _ _ h => h.tight (k' := k1 + 1) HTT.out) ?_); rintro e w2 ⟨x, rfl, e2, hx⟩; exact hK.out _ _ e2 hx (FreshIf.no rfl) }) ?_
        refine RgAll.cons (by { (with_reducible refine RgL.mk (by rfl) ?_); intro v a w' hE hd hf; skip; clear hd hf; intro K hK; go_simp; refine hK.out _ _ ((Ext.refl _).alloc _) ⟨_, rfl, hE.size, Bx.new _ _ _ _ _⟩ FreshIf.yes }) ?_
        exact RgAll.nil
      intro v W11 e1 hΦ _
      replace S := S.mono e1
      obtain ⟨s30, a30, n30, c30, v6, h30⟩ := (hΦ 6 (by decide) : IsI (k1 + 1) (((t : Nat) : Int)) (v 6) W11)
      obtain ⟨g6, v7, q6, b5⟩ := (hΦ 7 (by decide) : IsB wr (v 7) W11)
      replace S := S.addN (Apart.old hl.out q6) (Nat.le_trans hw q6) b5
      clear b5
      simp only [layL, Act.put, List.setIfInBounds_toArray, List.set_cons_zero, List.set_cons_succ, Nat.reduceAdd]
      rw [v6, v7]
      clear v6 v7
      clear hΦ
      clear hl hw
      clear e1
      obtain ⟨s8, a8, n8, c8, b8, _⟩ := S.at 0 (g6) (IsI 0 0) rfl; have F1 := b8.c0; have F2 := b8.c1; have F3 := b8.f0; have F4 := b8.f1
      refine wpAny_ready (rs := [8]) (by kernel_rfl) (by simp) (AllReady.cons rfl (fun K hK => ?_) AllReady.nil); go_simp; refine hK _ _ ?_; clear hK K
      clear F1 F2 F3 F4 b8
      obtain ⟨W12, hW, S2, G2, _⟩ := S.put 0 (g6) (IsI 0 0) (IsI (k1 + 1) (((t : Nat) : Int))) rfl s30 a30 n30 c30 (IsI.gstb _ _) ⟨_, _, _, _, rfl, h30⟩
      rw [← hW]; clear hW S
      have S : St w W12 [(g6, IsI (k1 + 1) (((t : Nat) : Int))), (g5, IsI (k1 + 1) (((gk : Nat) : Int))), (w.heap.size + 1 + 1, IsI 0 0), (w.heap.size + 1, IsI 0 0), (w.heap.size, IsI k1 ((m : Int)))] := S2; clear S2 G2
      clear h30
      refine wpAny_done (by kernel_rfl) ?_ _
      go_upto_region 7 with (fail)
      refine wp_region_rgs 4 [some 31, some 32, some 33, some 34] [IsI (k1 + 1) (((t : Nat) : Int)), IsI (k1 + 1) (((gk : Nat) : Int)), IsV (.int .i64 c), IsV (.bool false)] [] (by decide) (by kernel_rfl) (by kernel_rfl) (by kernel_rfl) ?_ ?_ ?_ ?_
      · repeat' (first | exact trivial | exact IsV.stb _ | exact IsW.stb _ | exact IsWk.stb _ _ | exact IsI.stb _ _ | exact IsB.stb _ | exact IsR.stb _ _ | exact IsMag.stb _ _ | exact IsPos.stb | apply IsT3.stb | apply IsT2.stb | apply And.intro)
      · exact (fun _ h => by cases h)
      · refine RgAll.cons (by { (with_reducible refine RgL.mk (by rfl) ?_); intro v a w' hE hd hf; have ev0 := hf.lit 6 (.pointer (some ⟨g6, 0, none⟩)) (by kernel_rfl) (by kernel_rfl); obtain ⟨s8, a8, n8, c8, b8, h8⟩ := (S.mono hE).at 0 (g6) (IsI (k1 + 1) (((t : Nat) : Int))) rfl; have L0 := b8.c0; have L1 := b8.c1; clear hd hf; intro K hK; go_simp; exact hK.out _ _ (Ext.refl _) h8 (FreshIf.no rfl) }) ?_
        refine RgAll.cons (by { (with_reducible refine RgL.mk (by rfl) ?_); intro v a w' hE hd hf; have ev0 := hf.lit 5 (.pointer (some ⟨g5, 0, none⟩)) (by kernel_rfl) (by kernel_rfl); obtain ⟨s8, a8, n8, c8, b8, h8⟩ := (S.mono hE).at 1 (g5) (IsI (k1 + 1) (((gk : Nat) : Int))) rfl; have L0 := b8.c0; have L1 := b8.c1; clear hd hf; intro K hK; go_simp; exact hK.out _ _ (Ext.refl _) h8 (FreshIf.no rfl) }) ?_
        refine RgAll.cons (by { (with_reducible refine RgL.mk (by rfl) ?_); intro v a w' hE hd hf; have d0 : (IsI (k1 + 1) (((t : Nat) : Int))) (v 0) w' := hd 0 (by kernel_rfl); have ev0 := hf.val 0 31 _ rfl (by kernel_rfl) (by kernel_rfl) (by kernel_rfl); have d1 : (IsI (k1 + 1) (((gk : Nat) : Int))) (v 1) w' := hd 1 (by kernel_rfl); have ev1 := hf.val 1 32 _ rfl (by kernel_rfl) (by kernel_rfl) (by kernel_rfl); clear hd hf; intro K hK; go_simp; go_at_call 24; go_split_ands; (with_reducible refine Calls.mono ((by have hh := RCmp_f d0 d1 (by omega) (by omega); rw [HC.out.1] at hh; exact hh)) ?_); rintro e w2 ⟨x, rfl, e2, hx⟩; exact hK.out _ _ e2 hx (FreshIf.no rfl) }) ?_
        refine RgAll.cons (by { (with_reducible refine RgL.mk (by rfl) ?_); intro v a w' hE hd hf; have d0 : v 2 = .int .i64 c := hd 2 (by kernel_rfl); have ev0 := hf.val 2 33 _ d0 (by kernel_rfl) (by kernel_rfl) (by kernel_rfl); clear d0; have hc9 := HC.out.2; clear hd hf; intro K hK; go_simp; exact hK.out _ _ (Ext.refl _) rfl (FreshIf.no rfl) }) ?_
        exact RgAll.nil
      intro v W13 e1 hΦ _
      replace S := S.mono e1
      have v3 : v 3 = .bool false := hΦ 3 (by decide)
      simp only [layL, Act.put, List.setIfInBounds_toArray, List.set_cons_zero, List.set_cons_succ, Nat.reduceAdd]
      rw [v3]
      clear v3
      clear hΦ
      clear e1
      refine wpList_nil ?_
      go_upto_region 9 with (fail)
      refine wp_region_rgs 1 [some 41] [IsI (k1 + 1) (((t : Nat) : Int))] [] (by decide) (by kernel_rfl) (by kernel_rfl) (by kernel_rfl) ?_ ?_ ?_ ?_
      · repeat' (first | exact trivial | exact IsV.stb _ | exact IsW.stb _ | exact IsWk.stb _ _ | exact IsI.stb _ _ | exact IsB.stb _ | exact IsR.stb _ _ | exact IsMag.stb _ _ | exact IsPos.stb | apply IsT3.stb | apply IsT2.stb | apply And.intro)
      · exact (fun _ h => by cases h)
      · refine RgAll.cons (by { (with_reducible refine RgL.mk (by rfl) ?_); intro v a w' hE hd hf; have ev0 := hf.lit 6 (.pointer (some ⟨g6, 0, none⟩)) (by kernel_rfl) (by kernel_rfl); obtain ⟨s8, a8, n8, c8, b8, h8⟩ := (S.mono hE).at 0 (g6) (IsI (k1 + 1) (((t : Nat) : Int))) rfl; have L0 := b8.c0; have L1 := b8.c1; clear hd hf; intro K hK; go_simp; exact hK.out _ _ (Ext.refl _) h8 (FreshIf.no rfl) }) ?_
        exact RgAll.nil
      intro v W14 e1 hΦ _
      replace S := S.mono e1
      obtain ⟨s41, a41, n41, c41, v0, h41⟩ := (hΦ 0 (by decide) : IsI (k1 + 1) (((t : Nat) : Int)) (v 0) W14)
      simp only [layL, Act.put, List.setIfInBounds_toArray, List.set_cons_zero, List.set_cons_succ]
      rw [v0]
      clear v0
      clear hΦ
      clear e1
      obtain ⟨s8, a8, n8, c8, b8, _⟩ := S.at 1 (g5) (IsI (k1 + 1) (((gk : Nat) : Int))) rfl; have F1 := b8.c0; have F2 := b8.c1; have F3 := b8.f0; have F4 := b8.f1
      refine wpList_step fun K hK => ?_; go_simp; refine hK _ _ ?_; clear hK K
      clear F1 F2 F3 F4 b8
      obtain ⟨W15, hW, S2, G2, _⟩ := S.put 1 (g5) (IsI (k1 + 1) (((gk : Nat) : Int))) (IsI (k1 + 1) (((t : Nat) : Int))) rfl s41 a41 n41 c41 (IsI.gstb _ _) ⟨_, _, _, _, rfl, h41⟩
      rw [← hW]; clear hW S
      have S : St w W15 [(g6, IsI (k1 + 1) (((t : Nat) : Int))), (g5, IsI (k1 + 1) (((t : Nat) : Int))), (w.heap.size + 1 + 1, IsI 0 0), (w.heap.size + 1, IsI 0 0), (w.heap.size, IsI k1 ((m : Int)))] := S2; clear S2 G2
      clear h41
      refine wpList_nil ?_
      have S' := hid S.tail; clear S
      go_wp2_with fail
      go_roundg t
      case measure => exact HLT.out
      case rel => exact ⟨by have := HGE.out; have := HR1.out; omega, by have := HLT.out; have := HG1.out; omega, HGE.out, S'⟩
    · obtain rfl : gk = r := by omega
      obtain ⟨c, hc⟩ : ∃ c, c = cmpI ((t : Nat) : Int) ((gk : Nat) : Int) := ⟨_, rfl⟩
      have HC := hid (show cmpI ((t : Nat) : Int) ((gk : Nat) : Int) = c ∧ decide (0 ≤ c) = true from ⟨hc.symm, by
        have := hge.out
        rcases Nat.eq_or_lt_of_le this with h | h
        · rw [hc, cmpI_eq (by omega)]; decide
        · rw [hc, cmpI_gt (by omega)]; decide⟩)
      have hgm : gk ≤ gk * gk := Nat.le_mul_of_pos_left gk hg0
      have HE2 := hid (show ((gk : Nat) : Int).natAbs < 4294967296 ^ k1 by rw [Int.natAbs_natCast]; have := sz1.out; rw [Int.natAbs_natCast] at this; have := HR.out.1; omega)
      have HRS := hid (show ((m : Int) - ((gk : Nat) : Int) * ((gk : Nat) : Int)).natAbs < 4294967296 ^ k1 by
        have h1 := sz1.out; rw [Int.natAbs_natCast] at h1; have h2 := HR.out.1
        have h3 : ((gk : Nat) : Int) * ((gk : Nat) : Int) = ((gk * gk : Nat) : Int) := by simp
        rw [h3]; omega)
      clear hc hlt hge ht hg0 hg1 hg2 hgm
      go_upto_region 6 with (fail)
      have hl := hid S.lt; have hw := S.ext.size
      refine wp_region_rg 8 [some 24, some 25, some 26, some 27, some 28, some 29, some 30, some 6] [IsI (k1 + 1) (((gk : Nat) : Int)), IsI k1 ((m : Int)), IsI (k1 + 1) (((gk : Nat) : Int)), IsI k1 ((m : Int) / ((gk : Nat) : Int)), IsI (max (k1 + 1) k1 + 1) (((gk : Nat) : Int) + (m : Int) / ((gk : Nat) : Int)), IsI 2 2, IsI (k1 + 1) (((t : Nat) : Int)), IsB wr] [7] 1 (by kernel_rfl) (by decide) (by kernel_rfl) (by kernel_rfl) (by kernel_rfl) (by kernel_rfl) (by kernel_rfl) ?_ ?_ ?_ ?_
      · repeat' (first | exact trivial | exact IsV.stb _ | exact IsW.stb _ | exact IsWk.stb _ _ | exact IsI.stb _ _ | exact IsB.stb _ | exact IsR.stb _ _ | exact IsMag.stb _ _ | exact IsPos.stb | apply IsT3.stb | apply IsT2.stb | apply And.intro)
      · intro i hi; simp only [List.mem_cons, List.not_mem_nil, or_false] at hi; subst hi; exact IsB.box _
      · refine RgAll.cons (by { (with_reducible refine RgL.mk (by rfl) ?_); intro v a w' hE hd hf; have ev0 := hf.lit 5 (.pointer (some ⟨g5, 0, none⟩)) (by kernel_rfl) (by kernel_rfl); obtain ⟨s8, a8, n8, c8, b8, h8⟩ := (S.mono hE).at 0 (g5) (IsI (k1 + 1) (((gk : Nat) : Int))) rfl; have L0 := b8.c0; have L1 := b8.c1; clear hd hf; intro K hK; go_simp; exact hK.out _ _ (Ext.refl _) h8 (FreshIf.no rfl) }) ?_
        refine RgAll.cons (by { (with_reducible refine RgL.mk (by rfl) ?_); intro v a w' hE hd hf; have ev0 := hf.lit 1 (.pointer (some ⟨w.heap.size, 0, none⟩)) (by kernel_rfl) (by kernel_rfl); obtain ⟨s8, a8, n8, c8, b8, h8⟩ := (S.mono hE).at 3 (w.heap.size) (IsI k1 ((m : Int))) rfl; have L0 := b8.c0; have L1 := b8.c1; clear hd hf; intro K hK; go_simp; exact hK.out _ _ (Ext.refl _) h8 (FreshIf.no rfl) }) ?_
        refine RgAll.cons (by { (with_reducible refine RgL.mk (by rfl) ?_); intro v a w' hE hd hf; have ev0 := hf.lit 5 (.pointer (some ⟨g5, 0, none⟩)) (by kernel_rfl) (by kernel_rfl); obtain ⟨s8, a8, n8, c8, b8, h8⟩ := (S.mono hE).at 0 (g5) (IsI (k1 + 1) (((gk : Nat) : Int))) rfl; have L0 := b8.c0; have L1 := b8.c1; clear hd hf; intro K hK; go_simp; exact hK.out _ _ (Ext.refl _) h8 (FreshIf.no rfl) }) ?_
        refine RgAll.cons (by { (with_reducible refine RgL.mk (by rfl) ?_); intro v a w' hE hd hf; have d0 : (IsI k1 ((m : Int))) (v 1) w' := hd 1 (by kernel_rfl); have ev0 := hf.val 1 25 _ rfl (by kernel_rfl) (by kernel_rfl) (by kernel_rfl); have d1 : (IsI (k1 + 1) (((gk : Nat) : Int))) (v 2) w' := hd 2 (by kernel_rfl); have ev1 := hf.val 2 26 _ rfl (by kernel_rfl) (by kernel_rfl) (by kernel_rfl); clear hd hf; intro K hK; go_simp; go_at_call 47; go_split_ands; (with_reducible refine Calls.mono (RDiv_f d0 d1 (by omega) (by omega) HG0.out) ?_); rintro e w2 ⟨x, rfl, e2, hx⟩; exact hK.out _ _ e2 hx (FreshIf.no rfl) }) ?_
        refine RgAll.cons (by { (with_reducible refine RgL.mk (by rfl) ?_); intro v a w' hE hd hf; have d0 : (IsI (k1 + 1) (((gk : Nat) : Int))) (v 0) w' := hd 0 (by kernel_rfl); have ev0 := hf.val 0 24 _ rfl (by kernel_rfl) (by kernel_rfl) (by kernel_rfl); have d1 : (IsI k1 ((m : Int) / ((gk : Nat) : Int))) (v 3) w' := hd 3 (by kernel_rfl); have ev1 := hf.val 3 27 _ rfl (by kernel_rfl) (by kernel_rfl) (by kernel_rfl); clear hd hf; intro K hK; go_simp; go_at_call 14; go_split_ands; (with_reducible refine Calls.mono (RAdd_f d0 d1 (by omega) (by omega)) ?_); rintro e w2 ⟨x, rfl, e2, hx⟩; exact hK.out _ _ e2 hx (FreshIf.no rfl) }) ?_
        refine RgAll.cons (by { (with_reducible refine RgL.mk (by rfl) ?_); intro v a w' hE hd hf; skip; clear hd hf; intro K hK; go_simp; go_at_call 35; go_split_ands; (with_reducible refine Calls.mono (ROf_f _ 2 (by decide) (by decide)) ?_); rintro e w2 ⟨x, rfl, e2, hx⟩; exact hK.out _ _ e2 hx (FreshIf.no rfl) }) ?_
        refine RgAll.cons (by { (with_reducible refine RgL.mk (by rfl) ?_); intro v a w' hE hd hf; have d0 : (IsI (max (k1 + 1) k1 + 1) (((gk : Nat) : Int) + (m : Int) / ((gk : Nat) : Int))) (v 4) w' := hd 4 (by kernel_rfl); have ev0 := hf.val 4 28 _ rfl (by kernel_rfl) (by kernel_rfl) (by kernel_rfl); have d1 : (IsI 2 2) (v 5) w' := hd 5 (by kernel_rfl); have ev1 := hf.val 5 29 _ rfl (by kernel_rfl) (by kernel_rfl) (by kernel_rfl); clear hd hf; intro K hK; go_simp; go_at_call 47; go_split_ands; (with_reducible refine Calls.mono (Calls.mono (RDiv_f d0 d1 (by omega) (by omega) (by decide)) fun _ _ h => (h.eqz HT.out).mono fun _ _ h => h.tight (k' := k1 + 1) HTT.out) ?_); rintro e w2 ⟨x, rfl, e2, hx⟩; exact hK.out _ _ e2 hx (FreshIf.no rfl) }) ?_
        refine RgAll.cons (by { (with_reducible refine RgL.mk (by rfl) ?_); intro v a w' hE hd hf; skip; clear hd hf; intro K hK; go_simp; refine hK.out _ _ ((Ext.refl _).alloc _) ⟨_, rfl, hE.size, Bx.new _ _ _ _ _⟩ FreshIf.yes }) ?_
        exact RgAll.nil
      intro v W6 e1 hΦ _
      replace S := S.mono e1
      obtain ⟨s30, a30, n30, c30, v6, h30⟩ := (hΦ 6 (by decide) : IsI (k1 + 1) (((t : Nat) : Int)) (v 6) W6)
      obtain ⟨g6, v7, q4, b3⟩ := (hΦ 7 (by decide) : IsB wr (v 7) W6)
      replace S := S.addN (Apart.old hl.out q4) (Nat.le_trans hw q4) b3
      clear b3
      simp only [layL, Act.put, List.setIfInBounds_toArray, List.set_cons_zero, List.set_cons_succ, Nat.reduceAdd]
      rw [v6, v7]
      clear v6 v7
      clear hΦ
      clear hl hw
      clear e1
      obtain ⟨s8, a8, n8, c8, b8, _⟩ := S.at 0 (g6) (IsI 0 0) rfl; have F1 := b8.c0; have F2 := b8.c1; have F3 := b8.f0; have F4 := b8.f1
      refine wpAny_ready (rs := [8]) (by kernel_rfl) (by simp) (AllReady.cons rfl (fun K hK => ?_) AllReady.nil); go_simp; refine hK _ _ ?_; clear hK K
      clear F1 F2 F3 F4 b8
      obtain ⟨W7, hW, S2, G2, _⟩ := S.put 0 (g6) (IsI 0 0) (IsI (k1 + 1) (((t : Nat) : Int))) rfl s30 a30 n30 c30 (IsI.gstb _ _) ⟨_, _, _, _, rfl, h30⟩
      rw [← hW]; clear hW S
      have S : St w W7 [(g6, IsI (k1 + 1) (((t : Nat) : Int))), (g5, IsI (k1 + 1) (((gk : Nat) : Int))), (w.heap.size + 1 + 1, IsI 0 0), (w.heap.size + 1, IsI 0 0), (w.heap.size, IsI k1 ((m : Int)))] := S2; clear S2 G2
      clear h30
      refine wpAny_done (by kernel_rfl) ?_ _
      go_upto_region 7 with (fail)
      refine wp_region_rgs 4 [some 31, some 32, some 33, some 34] [IsI (k1 + 1) (((t : Nat) : Int)), IsI (k1 + 1) (((gk : Nat) : Int)), IsV (.int .i64 c), IsV (.bool true)] [] (by decide) (by kernel_rfl) (by kernel_rfl) (by kernel_rfl) ?_ ?_ ?_ ?_
      · repeat' (first | exact trivial | exact IsV.stb _ | exact IsW.stb _ | exact IsWk.stb _ _ | exact IsI.stb _ _ | exact IsB.stb _ | exact IsR.stb _ _ | exact IsMag.stb _ _ | exact IsPos.stb | apply IsT3.stb | apply IsT2.stb | apply And.intro)
      · exact (fun _ h => by cases h)
      · refine RgAll.cons (by { (with_reducible refine RgL.mk (by rfl) ?_); intro v a w' hE hd hf; have ev0 := hf.lit 6 (.pointer (some ⟨g6, 0, none⟩)) (by kernel_rfl) (by kernel_rfl); obtain ⟨s8, a8, n8, c8, b8, h8⟩ := (S.mono hE).at 0 (g6) (IsI (k1 + 1) (((t : Nat) : Int))) rfl; have L0 := b8.c0; have L1 := b8.c1; clear hd hf; intro K hK; go_simp; exact hK.out _ _ (Ext.refl _) h8 (FreshIf.no rfl) }) ?_
        refine RgAll.cons (by { (with_reducible refine RgL.mk (by rfl) ?_); intro v a w' hE hd hf; have ev0 := hf.lit 5 (.pointer (some ⟨g5, 0, none⟩)) (by kernel_rfl) (by kernel_rfl); obtain ⟨s8, a8, n8, c8, b8, h8⟩ := (S.mono hE).at 1 (g5) (IsI (k1 + 1) (((gk : Nat) : Int))) rfl; have L0 := b8.c0; have L1 := b8.c1; clear hd hf; intro K hK; go_simp; exact hK.out _ _ (Ext.refl _) h8 (FreshIf.no rfl) }) ?_
        refine RgAll.cons (by { (with_reducible refine RgL.mk (by rfl) ?_); intro v a w' hE hd hf; have d0 : (IsI (k1 + 1) (((t : Nat) : Int))) (v 0) w' := hd 0 (by kernel_rfl); have ev0 := hf.val 0 31 _ rfl (by kernel_rfl) (by kernel_rfl) (by kernel_rfl); have d1 : (IsI (k1 + 1) (((gk : Nat) : Int))) (v 1) w' := hd 1 (by kernel_rfl); have ev1 := hf.val 1 32 _ rfl (by kernel_rfl) (by kernel_rfl) (by kernel_rfl); clear hd hf; intro K hK; go_simp; go_at_call 24; go_split_ands; (with_reducible refine Calls.mono ((by have hh := RCmp_f d0 d1 (by omega) (by omega); rw [HC.out.1] at hh; exact hh)) ?_); rintro e w2 ⟨x, rfl, e2, hx⟩; exact hK.out _ _ e2 hx (FreshIf.no rfl) }) ?_
        refine RgAll.cons (by { (with_reducible refine RgL.mk (by rfl) ?_); intro v a w' hE hd hf; have d0 : v 2 = .int .i64 c := hd 2 (by kernel_rfl); have ev0 := hf.val 2 33 _ d0 (by kernel_rfl) (by kernel_rfl) (by kernel_rfl); clear d0; have hc9 := HC.out.2; clear hd hf; intro K hK; go_simp; exact hK.out _ _ (Ext.refl _) rfl (FreshIf.no rfl) }) ?_
        exact RgAll.nil
      intro v W8 e1 hΦ _
      replace S := S.mono e1
      have v3 : v 3 = .bool true := hΦ 3 (by decide)
      simp only [layL, Act.put, List.setIfInBounds_toArray, List.set_cons_zero, List.set_cons_succ, Nat.reduceAdd]
      rw [v3]
      clear v3
      clear hΦ
      clear e1
      refine wpList_nil ?_
      go_upto_region 8 with (fail)
      have XB0 : ∃ s a n c, Bx W8 (w.heap.size + 1) s a n c := by obtain ⟨s, a, n, c, b, _⟩ := S.at 3 (w.heap.size + 1) (IsI 0 0) rfl; exact ⟨s, a, n, c, b⟩
      have XL0 : w.heap.size ≤ w.heap.size + 1 := (S.box _ (List.mem_of_getElem? (i := 3) rfl)).1
      have XB1 : ∃ s a n c, Bx W8 (w.heap.size + 1 + 1) s a n c := by obtain ⟨s, a, n, c, b, _⟩ := S.at 2 (w.heap.size + 1 + 1) (IsI 0 0) rfl; exact ⟨s, a, n, c, b⟩
      have XL1 : w.heap.size ≤ w.heap.size + 1 + 1 := (S.box _ (List.mem_of_getElem? (i := 2) rfl)).1
      obtain ⟨XS, XM0, XM1, HXG, HXP, HXN, HXA⟩ := xs2 (w.heap.size + 1, IsI (k1 + 1) (((gk : Nat) : Int))) (w.heap.size + 1 + 1, IsI k1 ((m : Int) - ((gk : Nat) : Int) * ((gk : Nat) : Int))) (IsI.gstb _ _) (IsI.gstb _ _) (S.ne 3 2 (w.heap.size + 1, IsI 0 0) (w.heap.size + 1 + 1, IsI 0 0) rfl rfl (by decide))
      obtain ⟨xs0, xa0, xn0, xc0, xb0, xh0⟩ := S.at 1 (g5) (IsI (k1 + 1) (((gk : Nat) : Int))) rfl
      have XN0 := HXN (g5) (S.ne 3 1 (w.heap.size + 1, IsI 0 0) (g5, IsI (k1 + 1) (((gk : Nat) : Int))) rfl rfl (by decide)) (S.ne 2 1 (w.heap.size + 1 + 1, IsI 0 0) (g5, IsI (k1 + 1) (((gk : Nat) : Int))) rfl rfl (by decide))
      obtain ⟨xs1, xa1, xn1, xc1, xb1, xh1⟩ := S.at 4 (w.heap.size) (IsI k1 ((m : Int))) rfl
      have XN1 := HXN (w.heap.size) (S.ne 3 4 (w.heap.size + 1, IsI 0 0) (w.heap.size, IsI k1 ((m : Int))) rfl rfl (by decide)) (S.ne 2 4 (w.heap.size + 1 + 1, IsI 0 0) (w.heap.size, IsI k1 ((m : Int))) rfl rfl (by decide))
      refine wp_region_rgx (Rx XS) 9 [some 35, some 36, some 37, some 38, some 39, some 40, none, none, some 4] [IsI (k1 + 1) (((gk : Nat) : Int)), IsI k1 ((m : Int)), IsI (k1 + 1) (((gk : Nat) : Int)), IsI (k1 + 1) (((gk : Nat) : Int)), IsI ((k1 + 1) + (k1 + 1)) (((gk : Nat) : Int) * ((gk : Nat) : Int)), IsI k1 ((m : Int) - ((gk : Nat) : Int) * ((gk : Nat) : Int)), IsHas (w.heap.size + 1, IsI (k1 + 1) (((gk : Nat) : Int))), IsHas (w.heap.size + 1 + 1, IsI k1 ((m : Int) - ((gk : Nat) : Int) * ((gk : Nat) : Int))), IsV (.int .i64 0)] (by kernel_rfl) (by kernel_rfl) (by kernel_rfl) (by kernel_rfl) (by kernel_rfl) (by kernel_rfl) Rx.trans (Rx.of HXG) ?_ ?_ ?_
      · exact ⟨StbR.g (IsI.gstb _ _), StbR.g (IsI.gstb _ _), StbR.g (IsI.gstb _ _), StbR.g (IsI.gstb _ _), StbR.g (IsI.gstb _ _), StbR.g (IsI.gstb _ _), StbR.has _ XM0, StbR.has _ XM1, StbR.v _ _, trivial⟩
      · refine RgAllx.cons (by { (with_reducible refine RgLx.mk (by rfl) ?_); intro v a w' hR hd hf; have ev0 := hf.lit 5 (.pointer (some ⟨g5, 0, none⟩)) (by kernel_rfl) (by kernel_rfl); have b8 := hR.bx _ _ _ _ _ XN0 xb0; have L0 := b8.c0; have L1 := b8.c1; clear hd hf; intro K hK; go_simp; exact hK.out _ _ (Rx.of HXG (Ext.refl _)) ((IsI.gstb _ _) _ _ _ hR.gr xh0) }) ?_
        refine RgAllx.cons (by { (with_reducible refine RgLx.mk (by rfl) ?_); intro v a w' hR hd hf; have ev0 := hf.lit 1 (.pointer (some ⟨w.heap.size, 0, none⟩)) (by kernel_rfl) (by kernel_rfl); have b8 := hR.bx _ _ _ _ _ XN1 xb1; have L0 := b8.c0; have L1 := b8.c1; clear hd hf; intro K hK; go_simp; exact hK.out _ _ (Rx.of HXG (Ext.refl _)) ((IsI.gstb _ _) _ _ _ hR.gr xh1) }) ?_
        refine RgAllx.cons (by { (with_reducible refine RgLx.mk (by rfl) ?_); intro v a w' hR hd hf; have ev0 := hf.lit 5 (.pointer (some ⟨g5, 0, none⟩)) (by kernel_rfl) (by kernel_rfl); have b8 := hR.bx _ _ _ _ _ XN0 xb0; have L0 := b8.c0; have L1 := b8.c1; clear hd hf; intro K hK; go_simp; exact hK.out _ _ (Rx.of HXG (Ext.refl _)) ((IsI.gstb _ _) _ _ _ hR.gr xh0) }) ?_
        refine RgAllx.cons (by { (with_reducible refine RgLx.mk (by rfl) ?_); intro v a w' hR hd hf; have ev0 := hf.lit 5 (.pointer (some ⟨g5, 0, none⟩)) (by kernel_rfl) (by kernel_rfl); have b8 := hR.bx _ _ _ _ _ XN0 xb0; have L0 := b8.c0; have L1 := b8.c1; clear hd hf; intro K hK; go_simp; exact hK.out _ _ (Rx.of HXG (Ext.refl _)) ((IsI.gstb _ _) _ _ _ hR.gr xh0) }) ?_
        refine RgAllx.cons (by { (with_reducible refine RgLx.mk (by rfl) ?_); intro v a w' hR hd hf; have d0 : (IsI (k1 + 1) (((gk : Nat) : Int))) (v 2) w' := hd 2 (by kernel_rfl); have ev0 := hf.val 2 37 _ rfl (by kernel_rfl) (by kernel_rfl) (by kernel_rfl); have d1 : (IsI (k1 + 1) (((gk : Nat) : Int))) (v 3) w' := hd 3 (by kernel_rfl); have ev1 := hf.val 3 38 _ rfl (by kernel_rfl) (by kernel_rfl) (by kernel_rfl); clear hd hf; intro K hK; go_simp; go_at_call 18; go_split_ands; (with_reducible refine Calls.mono (RMul_f d0 d1 (by omega) (by omega)) ?_); rintro e w2 ⟨x, rfl, e2, hx⟩; exact hK.out _ _ (Rx.of HXG e2) hx }) ?_
        refine RgAllx.cons (by { (with_reducible refine RgLx.mk (by rfl) ?_); intro v a w' hR hd hf; have d0 : (IsI k1 ((m : Int))) (v 1) w' := hd 1 (by kernel_rfl); have ev0 := hf.val 1 36 _ rfl (by kernel_rfl) (by kernel_rfl) (by kernel_rfl); have d1 : (IsI ((k1 + 1) + (k1 + 1)) (((gk : Nat) : Int) * ((gk : Nat) : Int))) (v 4) w' := hd 4 (by kernel_rfl); have ev1 := hf.val 4 39 _ rfl (by kernel_rfl) (by kernel_rfl) (by kernel_rfl); clear hd hf; intro K hK; go_simp; go_at_call 16; go_split_ands; (with_reducible refine Calls.mono (Calls.mono (RSub_f d0 d1 (by omega) (by omega)) fun _ _ h => h.mono fun _ _ h => h.tight (k' := k1) HRS.out) ?_); rintro e w2 ⟨x, rfl, e2, hx⟩; exact hK.out _ _ (Rx.of HXG e2) hx }) ?_
        refine RgAllx.cons (by { (with_reducible refine RgLx.mk (by rfl) ?_); intro v a w' hR hd hf; have ev0 := hf.lit 2 (.pointer (some ⟨w.heap.size + 1, 0, none⟩)) (by kernel_rfl) (by kernel_rfl); have d1 : (IsI (k1 + 1) (((gk : Nat) : Int))) (v 0) w' := hd 0 (by kernel_rfl); obtain ⟨s9, a9, n9, c9, z0, h9⟩ := d1; have ev1 := hf.val 0 35 _ z0 (by kernel_rfl) (by kernel_rfl) (by kernel_rfl); clear z0; obtain ⟨s7, a7, n7, c7, b7⟩ := hR.box _ XM0 XB0; have F1 := b7.c0; have F2 := b7.c1; have F3 := b7.f0; have F4 := b7.f1; clear hd hf; intro K hK; go_simp; obtain ⟨W8, hW8, r8, h8⟩ := Rx.put HXG HXP _ XM0 ⟨_, _, _, _, b7⟩ s9 a9 n9 c9 ⟨_, _, _, _, rfl, h9⟩; rw [← hW8]; exact hK.out undef _ r8 h8 }) ?_
        refine RgAllx.cons (by { (with_reducible refine RgLx.mk (by rfl) ?_); intro v a w' hR hd hf; have ev0 := hf.lit 3 (.pointer (some ⟨w.heap.size + 1 + 1, 0, none⟩)) (by kernel_rfl) (by kernel_rfl); have d1 : (IsI k1 ((m : Int) - ((gk : Nat) : Int) * ((gk : Nat) : Int))) (v 5) w' := hd 5 (by kernel_rfl); obtain ⟨s9, a9, n9, c9, z0, h9⟩ := d1; have ev1 := hf.val 5 40 _ z0 (by kernel_rfl) (by kernel_rfl) (by kernel_rfl); clear z0; obtain ⟨s7, a7, n7, c7, b7⟩ := hR.box _ XM1 XB1; have F1 := b7.c0; have F2 := b7.c1; have F3 := b7.f0; have F4 := b7.f1; clear hd hf; intro K hK; go_simp; obtain ⟨W8, hW8, r8, h8⟩ := Rx.put HXG HXP _ XM1 ⟨_, _, _, _, b7⟩ s9 a9 n9 c9 ⟨_, _, _, _, rfl, h9⟩; rw [← hW8]; exact hK.out undef _ r8 h8 }) ?_
        refine RgAllx.cons (by { (with_reducible refine RgLx.mk (by rfl) ?_); intro v a w' hR hd hf; skip; clear hd hf; intro K hK; go_simp; exact hK.out _ _ (Rx.of HXG (Ext.refl _)) rfl }) ?_
        exact RgAllx.nil
      intro v W9 r1 hΦ
      replace S := S.rx r1 (HXA _ ⟨XL0, IsI.gstb _ _, hΦ 6 (by decide)⟩ ⟨XL1, IsI.gstb _ _, hΦ 7 (by decide)⟩) [(g6, IsI (k1 + 1) (((t : Nat) : Int))), (g5, IsI (k1 + 1) (((gk : Nat) : Int))), (w.heap.size + 1 + 1, IsI k1 ((m : Int) - ((gk : Nat) : Int) * ((gk : Nat) : Int))), (w.heap.size + 1, IsI (k1 + 1) (((gk : Nat) : Int))), (w.heap.size, IsI k1 ((m : Int)))] rfl (by
        intro q hq; simp only [List.mem_cons, List.not_mem_nil, or_false] at hq; rcases hq with rfl | rfl | rfl | rfl | rfl
        · exact Or.inr ⟨List.mem_of_getElem? (i := 0) rfl, HXN _ (S.ne 3 0 (w.heap.size + 1, IsI 0 0) (g6, IsI (k1 + 1) (((t : Nat) : Int))) rfl rfl (by decide)) (S.ne 2 0 (w.heap.size + 1 + 1, IsI 0 0) (g6, IsI (k1 + 1) (((t : Nat) : Int))) rfl rfl (by decide))⟩
        · exact Or.inr ⟨List.mem_of_getElem? (i := 1) rfl, HXN _ (S.ne 3 1 (w.heap.size + 1, IsI 0 0) (g5, IsI (k1 + 1) (((gk : Nat) : Int))) rfl rfl (by decide)) (S.ne 2 1 (w.heap.size + 1 + 1, IsI 0 0) (g5, IsI (k1 + 1) (((gk : Nat) : Int))) rfl rfl (by decide))⟩
        · exact Or.inl XM1
        · exact Or.inl XM0
        · exact Or.inr ⟨List.mem_of_getElem? (i := 4) rfl, HXN _ (S.ne 3 4 (w.heap.size + 1, IsI 0 0) (w.heap.size, IsI k1 ((m : Int))) rfl rfl (by decide)) (S.ne 2 4 (w.heap.size + 1 + 1, IsI 0 0) (w.heap.size, IsI k1 ((m : Int))) rfl rfl (by decide))⟩)
      have v8 : v 8 = .int .i64 0 := hΦ 8 (by decide)
      simp only [layL, Act.put, List.setIfInBounds_toArray, List.set_cons_zero, List.set_cons_succ, Nat.reduceAdd]
      rw [v8]
      clear v8
      clear hΦ r1 HXG HXP HXN HXA
      refine wpAny_done (by kernel_rfl) ?_ _
      go_wp2_with fail
      obtain ⟨rs0, ra0, rn0, rc0, rb0, rh0⟩ := S.at 3 (w.heap.size + 1) (IsI (k1 + 1) (((gk : Nat) : Int))) rfl; have T0 := rb0.c0; have U0 := rb0.c1
      obtain ⟨rs1, ra1, rn1, rc1, rb1, rh1⟩ := S.at 2 (w.heap.size + 1 + 1) (IsI k1 ((m : Int) - ((gk : Nat) : Int) * ((gk : Nat) : Int))) rfl; have T1 := rb1.c0; have U1 := rb1.c1
      exact bodyPost_ret (v := .tuple #[.agg #[.bool rs0, .slice ra0 rn0 rc0], .agg #[.bool rs1, .slice ra1 rn1 rc1], .int .i64 0]) (by simp [results, Tryz.results30, go_sem, T0, U0, T1, U1]) rfl (⟨_, rfl, S.ext, _, _, _, rfl, IsI.tight rh0 HE2.out, rh1, rfl⟩)
end Go.Proofs.YtpflfagjkmeeiaaGreatDoor
