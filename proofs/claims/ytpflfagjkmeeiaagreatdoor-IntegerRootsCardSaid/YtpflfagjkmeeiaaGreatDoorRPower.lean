/-
  The reference package: Power. Every integer, every exponent, if the power has at most 2^27 words. (Printed by wip/gen/rpower.py.)
-/
import Derived.Test.YtpflfagjkmeeiaaGreatDoorRDm
namespace Go.Proofs.YtpflfagjkmeeiaaGreatDoor
open Go Go.RowKit

theorem half_odd (g d e : Nat) (h : g % 2 = 1) : g * d + e = g / 2 * (d + d) + (e + d) := by
  have h2 : g = 2 * (g / 2) + 1 := by omega
  generalize g / 2 = m at *
  subst h2
  grind
theorem half_even (g d e : Nat) (h : g % 2 = 0) : g * d + e = g / 2 * (d + d) + e := by
  have h2 : g = 2 * (g / 2) := by omega
  generalize g / 2 = m at *
  subst h2
  grind

set_option maxRecDepth 100000 in
set_option maxHeartbeats 4000000 in
theorem RPower_f {k1 : Nat} {z1 : Int} {x : Value} {w : World} (hx : IsI k1 z1 x w) (n : Nat) (hk : k1 * n ≤ 134217728) (hn63 : n ≤ 9223372036854775807) : Calls Tryz.prog 36 #[x, .int .i64 (n : Nat)] w (Ret w (IsI (k1 * n + 2) (z1 ^ n))) := by
  obtain ⟨s1, a1, n1, c1, rfl, h1⟩ := hx
  have HZ0 := hid (show (1 : Int) = z1 ^ 0 by rw [Int.pow_zero])
  obtain ⟨W, hW, S⟩ : ∃ W, W = (w.alloc (.cells #[.bool s1, .slice a1 n1 c1] 27)).alloc (.cells #[.bool false, .slice none 0 0] 27) ∧ St w W [(w.heap.size + 1, IsI 0 0), (w.heap.size, IsI k1 z1)] := ⟨_, rfl, (((St.start w).new' (w.heap.size) (by simp) s1 a1 n1 c1 27 (IsI k1 z1) (IsI.gstb _ _) ⟨_, _, _, _, rfl, h1⟩).new' (w.heap.size + 1) (by simp) false none 0 0 27 (IsI 0 0) (IsI.gstb _ _) (IsI.nil _ _))⟩
  clear h1
  go_enter Tryz.func36, Tryz.ntmps36
  go_upto_region 1 with (fail)
  rw [← hW]
  clear hW
  have hl := hid S.lt; have hw := S.ext.size
  refine wp_region_rgs 2 [some 6, some 5] [IsI 2 (z1 ^ 0), IsB W] [1] (by decide) (by kernel_rfl) (by kernel_rfl) (by kernel_rfl) ?_ ?_ ?_ ?_
  · repeat' (first | exact trivial | exact IsV.stb _ | exact IsI.stb _ _ | exact IsB.stb _ | exact IsR.stb _ _ | exact IsMag.stb _ _ | exact IsPos.stb | apply IsT3.stb | apply IsT2.stb | apply And.intro)
  · intro i hi; simp only [List.mem_cons, List.not_mem_nil, or_false] at hi; subst hi; exact IsB.box _
  · refine RgAll.cons (by { (with_reducible refine RgL.mk (by rfl) ?_); intro v a w' hE hd hf; skip; clear hd hf; intro K hK; go_simp; go_at_call 35; go_split_ands; (with_reducible refine Calls.mono (Calls.mono (ROf_f _ 1 (by decide) (by decide)) fun _ _ h => h.eqz HZ0.out) ?_); rintro e w2 ⟨x, rfl, e2, hx⟩; exact hK.out _ _ e2 hx (FreshIf.no rfl) }) ?_
    refine RgAll.cons (by { (with_reducible refine RgL.mk (by rfl) ?_); intro v a w' hE hd hf; skip; clear hd hf; intro K hK; go_simp; refine hK.out _ _ ((Ext.refl _).alloc _) ⟨_, rfl, hE.size, Bx.new _ _ _ _ _⟩ FreshIf.yes }) ?_
    exact RgAll.nil
  intro v W1 e1 hΦ _
  replace S := S.mono e1
  obtain ⟨s6, a6, n6, c6, v0, h6⟩ := (hΦ 0 (by decide) : IsI 2 (z1 ^ 0) (v 0) W1)
  obtain ⟨g5, v1, q2, b1⟩ := (hΦ 1 (by decide) : IsB W (v 1) W1)
  replace S := S.addN (Apart.old hl.out q2) (Nat.le_trans hw q2) b1
  clear b1
  simp only [layL, Act.put, List.setIfInBounds_toArray, List.set_cons_zero, List.set_cons_succ, Nat.reduceAdd]
  rw [v0, v1]
  clear v0 v1
  clear hΦ
  clear hl hw
  clear e1
  obtain ⟨s8, a8, n8, c8, b8, _⟩ := S.at 0 (g5) (IsI 0 0) rfl; have F1 := b8.c0; have F2 := b8.c1; have F3 := b8.f0; have F4 := b8.f1
  refine wpList_step fun K hK => ?_; go_simp; refine hK _ _ ?_; clear hK K
  clear F1 F2 F3 F4 b8
  obtain ⟨W2, hW, S2, G2, _⟩ := S.put 0 (g5) (IsI 0 0) (IsI 2 (z1 ^ 0)) rfl s6 a6 n6 c6 (IsI.gstb _ _) ⟨_, _, _, _, rfl, h6⟩
  rw [← hW]; clear hW S
  have S : St w W2 [(g5, IsI 2 (z1 ^ 0)), (w.heap.size + 1, IsI 0 0), (w.heap.size, IsI k1 z1)] := S2; clear S2 G2
  clear h6
  refine wpList_nil ?_
  go_wp2_with fail
  have S0 := hid (show St w W2 [(g5, IsI (k1 * 0 + 2) (z1 ^ 0)), (w.heap.size + 1, IsI 0 0), (w.heap.size, IsI (k1 * 1) (z1 ^ 1))] from by rw [Nat.mul_zero, Nat.zero_add, Nat.mul_one, Int.pow_one]; exact S)
  clear S
  go_loopg [1] n (fun gk v1 wr => ∃ d e : Nat, v1 = .int .i64 (gk : Int) ∧ n = gk * d + e ∧ 0 < d ∧ Hid (St w wr [(g5, IsI (k1 * e + 2) (z1 ^ e)), (w.heap.size + 1, IsI 0 0), (w.heap.size, IsI (k1 * d) (z1 ^ d))]))
  case atStart => exact ⟨1, 0, rfl, by omega, by omega, S0⟩
  case round =>
    clear S0
    obtain ⟨d, e, rfl, hn, hd, S⟩ := hrel
    have S := S.out
    rcases Nat.eq_zero_or_pos gk with hg | hg
    · skip
      subst hg
      obtain rfl : n = e := by omega
      clear hn
      rw [show ((0 : Nat) : Int) = 0 from rfl]
      go_upto_region 2 with (fail)
      refine wp_region_rgs 2 [some 7, some 8] [IsV (.int .i64 0), IsV (.bool false)] [] (by decide) (by kernel_rfl) (by kernel_rfl) (by kernel_rfl) ?_ ?_ ?_ ?_
      · repeat' (first | exact trivial | exact IsV.stb _ | exact IsI.stb _ _ | exact IsB.stb _ | exact IsR.stb _ _ | exact IsMag.stb _ _ | exact IsPos.stb | apply IsT3.stb | apply IsT2.stb | apply And.intro)
      · exact (fun _ h => by cases h)
      · refine RgAll.cons (by { (with_reducible refine RgL.mk (by rfl) ?_); intro v a w' hE hd hf; have ev0 := hf.lit 1 (.int .i64 0) (by kernel_rfl) (by kernel_rfl); clear hd hf; intro K hK; go_simp; exact hK.out _ _ (Ext.refl _) rfl (FreshIf.no rfl) }) ?_
        refine RgAll.cons (by { (with_reducible refine RgL.mk (by rfl) ?_); intro v a w' hE hd hf; have d0 : v 0 = .int .i64 0 := hd 0 (by kernel_rfl); have ev0 := hf.val 0 7 _ d0 (by kernel_rfl) (by kernel_rfl) (by kernel_rfl); clear d0; clear hd hf; intro K hK; go_simp; exact hK.out _ _ (Ext.refl _) rfl (FreshIf.no rfl) }) ?_
        exact RgAll.nil
      intro v W3 e1 hΦ _
      replace S := S.mono e1
      have v1 : v 1 = .bool false := hΦ 1 (by decide)
      simp only [layL, Act.put, List.setIfInBounds_toArray, List.set_cons_zero, List.set_cons_succ, Nat.reduceAdd]
      rw [v1]
      clear v1
      clear hΦ
      clear e1
      refine wpList_nil ?_
      go_upto_region 7 with (fail)
      refine wp_region_rgs 1 [some 20] [IsI (k1 * n + 2) (z1 ^ n)] [] (by decide) (by kernel_rfl) (by kernel_rfl) (by kernel_rfl) ?_ ?_ ?_ ?_
      · repeat' (first | exact trivial | exact IsV.stb _ | exact IsI.stb _ _ | exact IsB.stb _ | exact IsR.stb _ _ | exact IsMag.stb _ _ | exact IsPos.stb | apply IsT3.stb | apply IsT2.stb | apply And.intro)
      · exact (fun _ h => by cases h)
      · refine RgAll.cons (by { (with_reducible refine RgL.mk (by rfl) ?_); intro v a w' hE hd hf; have ev0 := hf.lit 5 (.pointer (some ⟨g5, 0, none⟩)) (by kernel_rfl) (by kernel_rfl); obtain ⟨s8, a8, n8, c8, b8, h8⟩ := (S.mono hE).at 0 (g5) (IsI (k1 * n + 2) (z1 ^ n)) rfl; have L0 := b8.c0; have L1 := b8.c1; clear hd hf; intro K hK; go_simp; exact hK.out _ _ (Ext.refl _) h8 (FreshIf.no rfl) }) ?_
        exact RgAll.nil
      intro v W4 e1 hΦ _
      replace S := S.mono e1
      obtain ⟨s20, a20, n20, c20, v0, h20⟩ := (hΦ 0 (by decide) : IsI (k1 * n + 2) (z1 ^ n) (v 0) W4)
      simp only [layL, Act.put, List.setIfInBounds_toArray, List.set_cons_zero, List.set_cons_succ]
      rw [v0]
      clear v0
      clear hΦ
      clear e1
      obtain ⟨s8, a8, n8, c8, b8, _⟩ := S.at 1 (w.heap.size + 1) (IsI 0 0) rfl; have F1 := b8.c0; have F2 := b8.c1; have F3 := b8.f0; have F4 := b8.f1
      refine wpList_step fun K hK => ?_; go_simp; refine hK _ _ ?_; clear hK K
      clear F1 F2 F3 F4 b8
      obtain ⟨W5, hW, S2, G2, _⟩ := S.put 1 (w.heap.size + 1) (IsI 0 0) (IsI (k1 * n + 2) (z1 ^ n)) rfl s20 a20 n20 c20 (IsI.gstb _ _) ⟨_, _, _, _, rfl, h20⟩
      rw [← hW]; clear hW S
      have S : St w W5 [(g5, IsI (k1 * n + 2) (z1 ^ n)), (w.heap.size + 1, IsI (k1 * n + 2) (z1 ^ n)), (w.heap.size, IsI (k1 * d) (z1 ^ d))] := S2; clear S2 G2
      clear h20
      refine wpList_nil ?_
      go_wp2_with fail
      obtain ⟨rs0, ra0, rn0, rc0, rb0, rh0⟩ := S.at 1 (w.heap.size + 1) (IsI (k1 * n + 2) (z1 ^ n)) rfl; have T0 := rb0.c0; have U0 := rb0.c1
      exact bodyPost_ret (v := .agg #[.bool rs0, .slice ra0 rn0 rc0]) (by simp [results, Tryz.results36, go_sem, T0, U0]) rfl (⟨_, rfl, S.ext, rh0⟩)
    · rcases Nat.mod_two_eq_zero_or_one gk with hodd | hodd
      · skip
        have HGT := hid (show decide ((0 : Int) < (gk : Int)) = true by simp; omega)
        have hdk : k1 * d ≤ k1 * n := Nat.mul_le_mul_left _ (by rw [hn]; exact Nat.le_trans (Nat.le_mul_of_pos_left d hg) (Nat.le_add_right _ _))
        have HM := hid (show (gk : Int) % 2 = 0 ∧ (gk : Int).tmod 2 = 0 by rw [Int.tmod_eq_emod_of_nonneg (by omega)]; omega)
        have HH := hid (show (gk : Int) / 2 = ((gk / 2 : Nat) : Int) ∧ (gk : Int).tdiv 2 = ((gk / 2 : Nat) : Int) by rw [Int.tdiv_eq_ediv_of_nonneg (by omega)]; omega)
        have HDK := hid hdk
        have hgkn : gk ≤ n := by have h9 := Nat.le_mul_of_pos_right gk hd; omega
        have HPD := hid (show z1 ^ d * z1 ^ d = z1 ^ (d + d) from (Int.pow_add z1 d d).symm)
        have HKD := hid (show k1 * d + k1 * d = k1 * (d + d) by rw [Nat.mul_add])
        have HN := hid hn
        have HD0 := hid hd
        have HO := hid (show gk % 2 = 0 from hodd)
        clear hdk hn hodd
        go_upto_region 2 with (fail)
        refine wp_region_rgs 2 [some 7, some 8] [IsV (.int .i64 (gk : Nat)), IsV (.bool true)] [] (by decide) (by kernel_rfl) (by kernel_rfl) (by kernel_rfl) ?_ ?_ ?_ ?_
        · repeat' (first | exact trivial | exact IsV.stb _ | exact IsI.stb _ _ | exact IsB.stb _ | exact IsR.stb _ _ | exact IsMag.stb _ _ | exact IsPos.stb | apply IsT3.stb | apply IsT2.stb | apply And.intro)
        · exact (fun _ h => by cases h)
        · refine RgAll.cons (by { (with_reducible refine RgL.mk (by rfl) ?_); intro v a w' hE hd hf; have ev0 := hf.lit 1 (.int .i64 (gk : Nat)) (by kernel_rfl) (by kernel_rfl); clear hd hf; intro K hK; go_simp; exact hK.out _ _ (Ext.refl _) rfl (FreshIf.no rfl) }) ?_
          refine RgAll.cons (by { (with_reducible refine RgL.mk (by rfl) ?_); intro v a w' hE hd hf; have d0 : v 0 = .int .i64 (gk : Nat) := hd 0 (by kernel_rfl); have ev0 := hf.val 0 7 _ d0 (by kernel_rfl) (by kernel_rfl) (by kernel_rfl); clear d0; have hb9 := HGT.out; clear hd hf; intro K hK; go_simp; exact hK.out _ _ (Ext.refl _) rfl (FreshIf.no rfl) }) ?_
          exact RgAll.nil
        intro v W6 e1 hΦ _
        replace S := S.mono e1
        have v1 : v 1 = .bool true := hΦ 1 (by decide)
        simp only [layL, Act.put, List.setIfInBounds_toArray, List.set_cons_zero, List.set_cons_succ, Nat.reduceAdd]
        rw [v1]
        clear v1
        clear hΦ
        clear e1
        refine wpList_nil ?_
        go_upto_region 3 with (fail)
        refine wp_region_rgs 3 [some 9, some 10, some 11] [IsV (.int .i64 (gk : Nat)), IsV (.int .i64 0), IsV (.bool false)] [] (by decide) (by kernel_rfl) (by kernel_rfl) (by kernel_rfl) ?_ ?_ ?_ ?_
        · repeat' (first | exact trivial | exact IsV.stb _ | exact IsI.stb _ _ | exact IsB.stb _ | exact IsR.stb _ _ | exact IsMag.stb _ _ | exact IsPos.stb | apply IsT3.stb | apply IsT2.stb | apply And.intro)
        · exact (fun _ h => by cases h)
        · refine RgAll.cons (by { (with_reducible refine RgL.mk (by rfl) ?_); intro v a w' hE hd hf; have ev0 := hf.lit 1 (.int .i64 (gk : Nat)) (by kernel_rfl) (by kernel_rfl); clear hd hf; intro K hK; go_simp; exact hK.out _ _ (Ext.refl _) rfl (FreshIf.no rfl) }) ?_
          refine RgAll.cons (by { (with_reducible refine RgL.mk (by rfl) ?_); intro v a w' hE hd hf; have d0 : v 0 = .int .i64 (gk : Nat) := hd 0 (by kernel_rfl); have ev0 := hf.val 0 9 _ d0 (by kernel_rfl) (by kernel_rfl) (by kernel_rfl); clear d0; have hb9 := HM.out.1; have hb8 := HM.out.2; clear hd hf; intro K hK; go_simp; exact hK.out _ _ (Ext.refl _) rfl (FreshIf.no rfl) }) ?_
          refine RgAll.cons (by { (with_reducible refine RgL.mk (by rfl) ?_); intro v a w' hE hd hf; have d0 : v 1 = .int .i64 0 := hd 1 (by kernel_rfl); have ev0 := hf.val 1 10 _ d0 (by kernel_rfl) (by kernel_rfl) (by kernel_rfl); clear d0; clear hd hf; intro K hK; go_simp; exact hK.out _ _ (Ext.refl _) rfl (FreshIf.no rfl) }) ?_
          exact RgAll.nil
        intro v W7 e1 hΦ _
        replace S := S.mono e1
        have v2 : v 2 = .bool false := hΦ 2 (by decide)
        simp only [layL, Act.put, List.setIfInBounds_toArray, List.set_cons_zero, List.set_cons_succ, Nat.reduceAdd]
        rw [v2]
        clear v2
        clear hΦ
        clear e1
        refine wpList_nil ?_
        go_upto_region 5 with (fail)
        refine wp_region_rgs 3 [some 15, some 16, some 17] [IsI (k1 * d) (z1 ^ d), IsI (k1 * d) (z1 ^ d), IsI (k1 * (d + d)) (z1 ^ (d + d))] [] (by decide) (by kernel_rfl) (by kernel_rfl) (by kernel_rfl) ?_ ?_ ?_ ?_
        · repeat' (first | exact trivial | exact IsV.stb _ | exact IsI.stb _ _ | exact IsB.stb _ | exact IsR.stb _ _ | exact IsMag.stb _ _ | exact IsPos.stb | apply IsT3.stb | apply IsT2.stb | apply And.intro)
        · exact (fun _ h => by cases h)
        · refine RgAll.cons (by { (with_reducible refine RgL.mk (by rfl) ?_); intro v a w' hE hd hf; have ev0 := hf.lit 2 (.pointer (some ⟨w.heap.size, 0, none⟩)) (by kernel_rfl) (by kernel_rfl); obtain ⟨s8, a8, n8, c8, b8, h8⟩ := (S.mono hE).at 2 (w.heap.size) (IsI (k1 * d) (z1 ^ d)) rfl; have L0 := b8.c0; have L1 := b8.c1; clear hd hf; intro K hK; go_simp; exact hK.out _ _ (Ext.refl _) h8 (FreshIf.no rfl) }) ?_
          refine RgAll.cons (by { (with_reducible refine RgL.mk (by rfl) ?_); intro v a w' hE hd hf; have ev0 := hf.lit 2 (.pointer (some ⟨w.heap.size, 0, none⟩)) (by kernel_rfl) (by kernel_rfl); obtain ⟨s8, a8, n8, c8, b8, h8⟩ := (S.mono hE).at 2 (w.heap.size) (IsI (k1 * d) (z1 ^ d)) rfl; have L0 := b8.c0; have L1 := b8.c1; clear hd hf; intro K hK; go_simp; exact hK.out _ _ (Ext.refl _) h8 (FreshIf.no rfl) }) ?_
          refine RgAll.cons (by { (with_reducible refine RgL.mk (by rfl) ?_); intro v a w' hE hd hf; have d0 : (IsI (k1 * d) (z1 ^ d)) (v 0) w' := hd 0 (by kernel_rfl); have ev0 := hf.val 0 15 _ rfl (by kernel_rfl) (by kernel_rfl) (by kernel_rfl); have d1 : (IsI (k1 * d) (z1 ^ d)) (v 1) w' := hd 1 (by kernel_rfl); have ev1 := hf.val 1 16 _ rfl (by kernel_rfl) (by kernel_rfl) (by kernel_rfl); clear hd hf; intro K hK; go_simp; go_at_call 18; go_split_ands; (with_reducible refine Calls.mono ((by have hh := RMul_f d0 d1 (by have := HDK.out; omega) (by have := HDK.out; omega); rw [HPD.out, HKD.out] at hh; exact hh)) ?_); rintro e w2 ⟨x, rfl, e2, hx⟩; exact hK.out _ _ e2 hx (FreshIf.no rfl) }) ?_
          exact RgAll.nil
        intro v W8 e1 hΦ _
        replace S := S.mono e1
        obtain ⟨s17, a17, n17, c17, v2, h17⟩ := (hΦ 2 (by decide) : IsI (k1 * (d + d)) (z1 ^ (d + d)) (v 2) W8)
        simp only [layL, Act.put, List.setIfInBounds_toArray, List.set_cons_zero, List.set_cons_succ, Nat.reduceAdd]
        rw [v2]
        clear v2
        clear hΦ
        clear e1
        obtain ⟨s8, a8, n8, c8, b8, _⟩ := S.at 2 (w.heap.size) (IsI (k1 * d) (z1 ^ d)) rfl; have F1 := b8.c0; have F2 := b8.c1; have F3 := b8.f0; have F4 := b8.f1
        refine wpList_step fun K hK => ?_; go_simp; refine hK _ _ ?_; clear hK K
        clear F1 F2 F3 F4 b8
        obtain ⟨W9, hW, S2, G2, _⟩ := S.put 2 (w.heap.size) (IsI (k1 * d) (z1 ^ d)) (IsI (k1 * (d + d)) (z1 ^ (d + d))) rfl s17 a17 n17 c17 (IsI.gstb _ _) ⟨_, _, _, _, rfl, h17⟩
        rw [← hW]; clear hW S
        have S : St w W9 [(g5, IsI (k1 * e + 2) (z1 ^ e)), (w.heap.size + 1, IsI 0 0), (w.heap.size, IsI (k1 * (d + d)) (z1 ^ (d + d)))] := S2; clear S2 G2
        clear h17
        refine wpList_nil ?_
        go_upto_region 6 with (fail)
        have HS := hid S; clear S
        go_wp2_with fail
        go_roundg (gk / 2)
        case measure => omega
        case rel => exact ⟨d + d, e, by first | exact congrArg (Value.int .i64) HH.out.1 | exact congrArg (Value.int .i64) HH.out.2 | go_num, by have := HN.out; rw [this]; exact half_even gk d e HO.out, by have := HD0.out; omega, HS⟩
      · skip
        have HGT := hid (show decide ((0 : Int) < (gk : Int)) = true by simp; omega)
        have hdk : k1 * d ≤ k1 * n := Nat.mul_le_mul_left _ (by rw [hn]; exact Nat.le_trans (Nat.le_mul_of_pos_left d hg) (Nat.le_add_right _ _))
        have HM := hid (show (gk : Int) % 2 = 1 ∧ (gk : Int).tmod 2 = 1 by rw [Int.tmod_eq_emod_of_nonneg (by omega)]; omega)
        have HH := hid (show (gk : Int) / 2 = ((gk / 2 : Nat) : Int) ∧ (gk : Int).tdiv 2 = ((gk / 2 : Nat) : Int) by rw [Int.tdiv_eq_ediv_of_nonneg (by omega)]; omega)
        have HDK := hid hdk
        have hgkn : gk ≤ n := by have h9 := Nat.le_mul_of_pos_right gk hd; omega
        have hek : k1 * e ≤ k1 * n := Nat.mul_le_mul_left _ (by omega)
        have HEK := hid hek
        have HPO := hid (show z1 ^ e * z1 ^ d = z1 ^ (e + d) from (Int.pow_add z1 e d).symm)
        have HKO := hid (show k1 * e + 2 + k1 * d = k1 * (e + d) + 2 by rw [Nat.mul_add]; omega)
        clear hek
        have HPD := hid (show z1 ^ d * z1 ^ d = z1 ^ (d + d) from (Int.pow_add z1 d d).symm)
        have HKD := hid (show k1 * d + k1 * d = k1 * (d + d) by rw [Nat.mul_add])
        have HN := hid hn
        have HD0 := hid hd
        have HO := hid (show gk % 2 = 1 from hodd)
        clear hdk hn hodd
        go_upto_region 2 with (fail)
        refine wp_region_rgs 2 [some 7, some 8] [IsV (.int .i64 (gk : Nat)), IsV (.bool true)] [] (by decide) (by kernel_rfl) (by kernel_rfl) (by kernel_rfl) ?_ ?_ ?_ ?_
        · repeat' (first | exact trivial | exact IsV.stb _ | exact IsI.stb _ _ | exact IsB.stb _ | exact IsR.stb _ _ | exact IsMag.stb _ _ | exact IsPos.stb | apply IsT3.stb | apply IsT2.stb | apply And.intro)
        · exact (fun _ h => by cases h)
        · refine RgAll.cons (by { (with_reducible refine RgL.mk (by rfl) ?_); intro v a w' hE hd hf; have ev0 := hf.lit 1 (.int .i64 (gk : Nat)) (by kernel_rfl) (by kernel_rfl); clear hd hf; intro K hK; go_simp; exact hK.out _ _ (Ext.refl _) rfl (FreshIf.no rfl) }) ?_
          refine RgAll.cons (by { (with_reducible refine RgL.mk (by rfl) ?_); intro v a w' hE hd hf; have d0 : v 0 = .int .i64 (gk : Nat) := hd 0 (by kernel_rfl); have ev0 := hf.val 0 7 _ d0 (by kernel_rfl) (by kernel_rfl) (by kernel_rfl); clear d0; have hb9 := HGT.out; clear hd hf; intro K hK; go_simp; exact hK.out _ _ (Ext.refl _) rfl (FreshIf.no rfl) }) ?_
          exact RgAll.nil
        intro v W10 e1 hΦ _
        replace S := S.mono e1
        have v1 : v 1 = .bool true := hΦ 1 (by decide)
        simp only [layL, Act.put, List.setIfInBounds_toArray, List.set_cons_zero, List.set_cons_succ, Nat.reduceAdd]
        rw [v1]
        clear v1
        clear hΦ
        clear e1
        refine wpList_nil ?_
        go_upto_region 3 with (fail)
        refine wp_region_rgs 3 [some 9, some 10, some 11] [IsV (.int .i64 (gk : Nat)), IsV (.int .i64 1), IsV (.bool true)] [] (by decide) (by kernel_rfl) (by kernel_rfl) (by kernel_rfl) ?_ ?_ ?_ ?_
        · repeat' (first | exact trivial | exact IsV.stb _ | exact IsI.stb _ _ | exact IsB.stb _ | exact IsR.stb _ _ | exact IsMag.stb _ _ | exact IsPos.stb | apply IsT3.stb | apply IsT2.stb | apply And.intro)
        · exact (fun _ h => by cases h)
        · refine RgAll.cons (by { (with_reducible refine RgL.mk (by rfl) ?_); intro v a w' hE hd hf; have ev0 := hf.lit 1 (.int .i64 (gk : Nat)) (by kernel_rfl) (by kernel_rfl); clear hd hf; intro K hK; go_simp; exact hK.out _ _ (Ext.refl _) rfl (FreshIf.no rfl) }) ?_
          refine RgAll.cons (by { (with_reducible refine RgL.mk (by rfl) ?_); intro v a w' hE hd hf; have d0 : v 0 = .int .i64 (gk : Nat) := hd 0 (by kernel_rfl); have ev0 := hf.val 0 9 _ d0 (by kernel_rfl) (by kernel_rfl) (by kernel_rfl); clear d0; have hb9 := HM.out.1; have hb8 := HM.out.2; clear hd hf; intro K hK; go_simp; exact hK.out _ _ (Ext.refl _) rfl (FreshIf.no rfl) }) ?_
          refine RgAll.cons (by { (with_reducible refine RgL.mk (by rfl) ?_); intro v a w' hE hd hf; have d0 : v 1 = .int .i64 1 := hd 1 (by kernel_rfl); have ev0 := hf.val 1 10 _ d0 (by kernel_rfl) (by kernel_rfl) (by kernel_rfl); clear d0; clear hd hf; intro K hK; go_simp; exact hK.out _ _ (Ext.refl _) rfl (FreshIf.no rfl) }) ?_
          exact RgAll.nil
        intro v W11 e1 hΦ _
        replace S := S.mono e1
        have v2 : v 2 = .bool true := hΦ 2 (by decide)
        simp only [layL, Act.put, List.setIfInBounds_toArray, List.set_cons_zero, List.set_cons_succ, Nat.reduceAdd]
        rw [v2]
        clear v2
        clear hΦ
        clear e1
        refine wpList_nil ?_
        go_upto_region 4 with (fail)
        refine wp_region_rgs 3 [some 12, some 13, some 14] [IsI (k1 * e + 2) (z1 ^ e), IsI (k1 * d) (z1 ^ d), IsI (k1 * (e + d) + 2) (z1 ^ (e + d))] [] (by decide) (by kernel_rfl) (by kernel_rfl) (by kernel_rfl) ?_ ?_ ?_ ?_
        · repeat' (first | exact trivial | exact IsV.stb _ | exact IsI.stb _ _ | exact IsB.stb _ | exact IsR.stb _ _ | exact IsMag.stb _ _ | exact IsPos.stb | apply IsT3.stb | apply IsT2.stb | apply And.intro)
        · exact (fun _ h => by cases h)
        · refine RgAll.cons (by { (with_reducible refine RgL.mk (by rfl) ?_); intro v a w' hE hd hf; have ev0 := hf.lit 5 (.pointer (some ⟨g5, 0, none⟩)) (by kernel_rfl) (by kernel_rfl); obtain ⟨s8, a8, n8, c8, b8, h8⟩ := (S.mono hE).at 0 (g5) (IsI (k1 * e + 2) (z1 ^ e)) rfl; have L0 := b8.c0; have L1 := b8.c1; clear hd hf; intro K hK; go_simp; exact hK.out _ _ (Ext.refl _) h8 (FreshIf.no rfl) }) ?_
          refine RgAll.cons (by { (with_reducible refine RgL.mk (by rfl) ?_); intro v a w' hE hd hf; have ev0 := hf.lit 2 (.pointer (some ⟨w.heap.size, 0, none⟩)) (by kernel_rfl) (by kernel_rfl); obtain ⟨s8, a8, n8, c8, b8, h8⟩ := (S.mono hE).at 2 (w.heap.size) (IsI (k1 * d) (z1 ^ d)) rfl; have L0 := b8.c0; have L1 := b8.c1; clear hd hf; intro K hK; go_simp; exact hK.out _ _ (Ext.refl _) h8 (FreshIf.no rfl) }) ?_
          refine RgAll.cons (by { (with_reducible refine RgL.mk (by rfl) ?_); intro v a w' hE hd hf; have d0 : (IsI (k1 * e + 2) (z1 ^ e)) (v 0) w' := hd 0 (by kernel_rfl); have ev0 := hf.val 0 12 _ rfl (by kernel_rfl) (by kernel_rfl) (by kernel_rfl); have d1 : (IsI (k1 * d) (z1 ^ d)) (v 1) w' := hd 1 (by kernel_rfl); have ev1 := hf.val 1 13 _ rfl (by kernel_rfl) (by kernel_rfl) (by kernel_rfl); clear hd hf; intro K hK; go_simp; go_at_call 18; go_split_ands; (with_reducible refine Calls.mono ((by have hh := RMul_f d0 d1 (by have := HEK.out; omega) (by have := HDK.out; omega); rw [HPO.out, HKO.out] at hh; exact hh)) ?_); rintro e w2 ⟨x, rfl, e2, hx⟩; exact hK.out _ _ e2 hx (FreshIf.no rfl) }) ?_
          exact RgAll.nil
        intro v W12 e1 hΦ _
        replace S := S.mono e1
        obtain ⟨s14, a14, n14, c14, v2, h14⟩ := (hΦ 2 (by decide) : IsI (k1 * (e + d) + 2) (z1 ^ (e + d)) (v 2) W12)
        simp only [layL, Act.put, List.setIfInBounds_toArray, List.set_cons_zero, List.set_cons_succ, Nat.reduceAdd]
        rw [v2]
        clear v2
        clear hΦ
        clear e1
        obtain ⟨s8, a8, n8, c8, b8, _⟩ := S.at 0 (g5) (IsI (k1 * e + 2) (z1 ^ e)) rfl; have F1 := b8.c0; have F2 := b8.c1; have F3 := b8.f0; have F4 := b8.f1
        refine wpList_step fun K hK => ?_; go_simp; refine hK _ _ ?_; clear hK K
        clear F1 F2 F3 F4 b8
        obtain ⟨W13, hW, S2, G2, _⟩ := S.put 0 (g5) (IsI (k1 * e + 2) (z1 ^ e)) (IsI (k1 * (e + d) + 2) (z1 ^ (e + d))) rfl s14 a14 n14 c14 (IsI.gstb _ _) ⟨_, _, _, _, rfl, h14⟩
        rw [← hW]; clear hW S
        have S : St w W13 [(g5, IsI (k1 * (e + d) + 2) (z1 ^ (e + d))), (w.heap.size + 1, IsI 0 0), (w.heap.size, IsI (k1 * d) (z1 ^ d))] := S2; clear S2 G2
        clear h14
        refine wpList_nil ?_
        go_upto_region 5 with (fail)
        refine wp_region_rgs 3 [some 15, some 16, some 17] [IsI (k1 * d) (z1 ^ d), IsI (k1 * d) (z1 ^ d), IsI (k1 * (d + d)) (z1 ^ (d + d))] [] (by decide) (by kernel_rfl) (by kernel_rfl) (by kernel_rfl) ?_ ?_ ?_ ?_
        · repeat' (first | exact trivial | exact IsV.stb _ | exact IsI.stb _ _ | exact IsB.stb _ | exact IsR.stb _ _ | exact IsMag.stb _ _ | exact IsPos.stb | apply IsT3.stb | apply IsT2.stb | apply And.intro)
        · exact (fun _ h => by cases h)
        · refine RgAll.cons (by { (with_reducible refine RgL.mk (by rfl) ?_); intro v a w' hE hd hf; have ev0 := hf.lit 2 (.pointer (some ⟨w.heap.size, 0, none⟩)) (by kernel_rfl) (by kernel_rfl); obtain ⟨s8, a8, n8, c8, b8, h8⟩ := (S.mono hE).at 2 (w.heap.size) (IsI (k1 * d) (z1 ^ d)) rfl; have L0 := b8.c0; have L1 := b8.c1; clear hd hf; intro K hK; go_simp; exact hK.out _ _ (Ext.refl _) h8 (FreshIf.no rfl) }) ?_
          refine RgAll.cons (by { (with_reducible refine RgL.mk (by rfl) ?_); intro v a w' hE hd hf; have ev0 := hf.lit 2 (.pointer (some ⟨w.heap.size, 0, none⟩)) (by kernel_rfl) (by kernel_rfl); obtain ⟨s8, a8, n8, c8, b8, h8⟩ := (S.mono hE).at 2 (w.heap.size) (IsI (k1 * d) (z1 ^ d)) rfl; have L0 := b8.c0; have L1 := b8.c1; clear hd hf; intro K hK; go_simp; exact hK.out _ _ (Ext.refl _) h8 (FreshIf.no rfl) }) ?_
          refine RgAll.cons (by { (with_reducible refine RgL.mk (by rfl) ?_); intro v a w' hE hd hf; have d0 : (IsI (k1 * d) (z1 ^ d)) (v 0) w' := hd 0 (by kernel_rfl); have ev0 := hf.val 0 15 _ rfl (by kernel_rfl) (by kernel_rfl) (by kernel_rfl); have d1 : (IsI (k1 * d) (z1 ^ d)) (v 1) w' := hd 1 (by kernel_rfl); have ev1 := hf.val 1 16 _ rfl (by kernel_rfl) (by kernel_rfl) (by kernel_rfl); clear hd hf; intro K hK; go_simp; go_at_call 18; go_split_ands; (with_reducible refine Calls.mono ((by have hh := RMul_f d0 d1 (by have := HDK.out; omega) (by have := HDK.out; omega); rw [HPD.out, HKD.out] at hh; exact hh)) ?_); rintro e w2 ⟨x, rfl, e2, hx⟩; exact hK.out _ _ e2 hx (FreshIf.no rfl) }) ?_
          exact RgAll.nil
        intro v W14 e1 hΦ _
        replace S := S.mono e1
        obtain ⟨s17, a17, n17, c17, v2, h17⟩ := (hΦ 2 (by decide) : IsI (k1 * (d + d)) (z1 ^ (d + d)) (v 2) W14)
        simp only [layL, Act.put, List.setIfInBounds_toArray, List.set_cons_zero, List.set_cons_succ, Nat.reduceAdd]
        rw [v2]
        clear v2
        clear hΦ
        clear e1
        obtain ⟨s8, a8, n8, c8, b8, _⟩ := S.at 2 (w.heap.size) (IsI (k1 * d) (z1 ^ d)) rfl; have F1 := b8.c0; have F2 := b8.c1; have F3 := b8.f0; have F4 := b8.f1
        refine wpList_step fun K hK => ?_; go_simp; refine hK _ _ ?_; clear hK K
        clear F1 F2 F3 F4 b8
        obtain ⟨W15, hW, S2, G2, _⟩ := S.put 2 (w.heap.size) (IsI (k1 * d) (z1 ^ d)) (IsI (k1 * (d + d)) (z1 ^ (d + d))) rfl s17 a17 n17 c17 (IsI.gstb _ _) ⟨_, _, _, _, rfl, h17⟩
        rw [← hW]; clear hW S
        have S : St w W15 [(g5, IsI (k1 * (e + d) + 2) (z1 ^ (e + d))), (w.heap.size + 1, IsI 0 0), (w.heap.size, IsI (k1 * (d + d)) (z1 ^ (d + d)))] := S2; clear S2 G2
        clear h17
        refine wpList_nil ?_
        go_upto_region 6 with (fail)
        have HS := hid S; clear S
        go_wp2_with fail
        go_roundg (gk / 2)
        case measure => omega
        case rel => exact ⟨d + d, e + d, by first | exact congrArg (Value.int .i64) HH.out.1 | exact congrArg (Value.int .i64) HH.out.2 | go_num, by have := HN.out; rw [this]; exact half_odd gk d e HO.out, by have := HD0.out; omega, HS⟩
end Go.Proofs.YtpflfagjkmeeiaaGreatDoor
