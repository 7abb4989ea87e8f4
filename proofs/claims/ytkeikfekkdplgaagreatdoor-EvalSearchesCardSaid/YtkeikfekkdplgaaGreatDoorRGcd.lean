/-
 The reference package: Gcd. Every two integers of at most 2^20 words. (Printed by wip/gen/rgcd.py.)
-/
import Derived.Test.YtkeikfekkdplgaaGreatDoorRDm
namespace Go.Proofs.YtkeikfekkdplgaaGreatDoor
open Go Go.RowKit

theorem IsI.eqz' {k : Nat} {z z' : Int} {x : Value} {w : World} (h : IsI k z x w) (hz : z = z') : IsI k z' x w := hz ▸ h
set_option maxRecDepth 100000 in
set_option maxHeartbeats 4000000 in
theorem RGcd_f {k1 k2 : Nat} {z1 z2 : Int} {x y : Value} {w : World} (hx : IsI k1 z1 x w) (hy : IsI k2 z2 y w) (l1 : k1 ≤ 1048576) (l2 : k2 ≤ 1048576) : Calls Tryz.prog 104 #[x, y] w (Ret w (IsI (max k1 k2) ((Int.gcd z1 z2 : Nat) : Int))) := by
 obtain ⟨s1, a1, n1, c1, rfl, h1⟩ := hx
 obtain ⟨s2, a2, n2, c2, rfl, h2⟩ := hy
 obtain ⟨W, hW, S⟩ : ∃ W, W = ((w.alloc (.cells #[.bool s1, .slice a1 n1 c1] 28)).alloc (.cells #[.bool s2, .slice a2 n2 c2] 28)).alloc (.cells #[.bool false, .slice none 0 0] 28) ∧ St w W [(w.heap.size + 1 + 1, IsI 0 0), (w.heap.size + 1, IsI k2 z2), (w.heap.size, IsI k1 z1)] := ⟨_, rfl, ((((St.start w).new' (w.heap.size) (by simp) s1 a1 n1 c1 28 (IsI k1 z1) (IsI.gstb _ _) ⟨_, _, _, _, rfl, h1⟩).new' (w.heap.size + 1) (by simp) s2 a2 n2 c2 28 (IsI k2 z2) (IsI.gstb _ _) ⟨_, _, _, _, rfl, h2.ext ((Ext.refl _).alloc _)⟩).new' (w.heap.size + 1 + 1) (by simp) false none 0 0 28 (IsI 0 0) (IsI.gstb _ _) (IsI.nil _ _))⟩
 clear h1 h2
 go_enter Tryz.func104, Tryz.ntmps104
 go_upto_region 1 with (fail)
 rw [← hW]
 clear hW
 refine wp_region_rgs 2 [some 6, some 7] [IsI k1 z1, IsI k1 z1.natAbs] [] (by decide) (by kernel_rfl) (by kernel_rfl) (by kernel_rfl) ?_ ?_ ?_ ?_
 ·repeat' (first | exact trivial | exact IsV.stb _ | exact IsW.stb _ | exact IsWk.stb _ _ | exact IsI.stb _ _ | exact IsB.stb _ | exact IsR.stb _ _ | exact IsMag.stb _ _ | exact IsPos.stb | apply IsT3.stb | apply IsT2.stb | apply And.intro)
 ·exact (fun _ h => by cases h)
 ·refine RgAll.cons (by { (with_reducible refine RgL.mk (by rfl) ?_); intro v a w' hE hd hf; have ev0 := hf.lit 2 (.pointer (some ⟨w.heap.size, 0, none⟩)) (by kernel_rfl) (by kernel_rfl); obtain ⟨s8, a8, n8, c8, b8, h8⟩ := (S.mono hE).at 2 (w.heap.size) (IsI k1 z1) rfl; have L0 := b8.c0; have L1 := b8.c1; clear hd hf; intro K hK; go_simp; exact hK.out _ _ (Ext.refl _) h8 (FreshIf.no rfl) }) ?_
  refine RgAll.cons (by { (with_reducible refine RgL.mk (by rfl) ?_); intro v a w' hE hd hf; have d0 : (IsI k1 z1) (v 0) w' := hd 0 (by kernel_rfl); have ev0 := hf.val 0 6 _ rfl (by kernel_rfl) (by kernel_rfl) (by kernel_rfl); clear hd hf; intro K hK; go_simp; go_at_call 124; go_split_ands; (with_reducible refine Calls.mono (RAbs_f d0) ?_); rintro e w2 ⟨x, rfl, e2, hx⟩; exact hK.out _ _ e2 hx (FreshIf.no rfl) }) ?_
  exact RgAll.nil
 intro v W1 e1 hΦ _
 replace S := S.mono e1
 obtain ⟨s7, a7, n7, c7, v1, h7⟩ := (hΦ 1 (by decide) : IsI k1 z1.natAbs (v 1) W1)
 simp only [layL, Act.put, uAx, u0x, u1x, Nat.reduceAdd]
 rw [v1]
 clear v1
 clear hΦ
 clear e1
 obtain ⟨s8, a8, n8, c8, b8, _⟩ := S.at 2 (w.heap.size) (IsI k1 z1) rfl; have F1 := b8.c0; have F2 := b8.c1; have F3 := b8.f0; have F4 := b8.f1
 refine wpList_step fun K hK => ?_; go_simp; refine hK _ _ ?_; clear hK K
 clear F1 F2 F3 F4 b8
 obtain ⟨W2, hW, S2, G2, _⟩ := S.put 2 (w.heap.size) (IsI k1 z1) (IsI k1 z1.natAbs) rfl s7 a7 n7 c7 (IsI.gstb _ _) ⟨_, _, _, _, rfl, h7⟩
 rw [← hW]; clear hW S
 have S : St w W2 [(w.heap.size + 1 + 1, IsI 0 0), (w.heap.size + 1, IsI k2 z2), (w.heap.size, IsI k1 z1.natAbs)] := S2; clear S2 G2
 clear h7
 refine wpList_nil ?_
 go_upto_region 2 with (fail)
 refine wp_region_rgs 2 [some 8, some 9] [IsI k2 z2, IsI k2 z2.natAbs] [] (by decide) (by kernel_rfl) (by kernel_rfl) (by kernel_rfl) ?_ ?_ ?_ ?_
 ·repeat' (first | exact trivial | exact IsV.stb _ | exact IsW.stb _ | exact IsWk.stb _ _ | exact IsI.stb _ _ | exact IsB.stb _ | exact IsR.stb _ _ | exact IsMag.stb _ _ | exact IsPos.stb | apply IsT3.stb | apply IsT2.stb | apply And.intro)
 ·exact (fun _ h => by cases h)
 ·refine RgAll.cons (by { (with_reducible refine RgL.mk (by rfl) ?_); intro v a w' hE hd hf; have ev0 := hf.lit 3 (.pointer (some ⟨w.heap.size + 1, 0, none⟩)) (by kernel_rfl) (by kernel_rfl); obtain ⟨s8, a8, n8, c8, b8, h8⟩ := (S.mono hE).at 1 (w.heap.size + 1) (IsI k2 z2) rfl; have L0 := b8.c0; have L1 := b8.c1; clear hd hf; intro K hK; go_simp; exact hK.out _ _ (Ext.refl _) h8 (FreshIf.no rfl) }) ?_
  refine RgAll.cons (by { (with_reducible refine RgL.mk (by rfl) ?_); intro v a w' hE hd hf; have d0 : (IsI k2 z2) (v 0) w' := hd 0 (by kernel_rfl); have ev0 := hf.val 0 8 _ rfl (by kernel_rfl) (by kernel_rfl) (by kernel_rfl); clear hd hf; intro K hK; go_simp; go_at_call 124; go_split_ands; (with_reducible refine Calls.mono (RAbs_f d0) ?_); rintro e w2 ⟨x, rfl, e2, hx⟩; exact hK.out _ _ e2 hx (FreshIf.no rfl) }) ?_
  exact RgAll.nil
 intro v W3 e1 hΦ _
 replace S := S.mono e1
 obtain ⟨s9, a9, n9, c9, v1, h9⟩ := (hΦ 1 (by decide) : IsI k2 z2.natAbs (v 1) W3)
 simp only [layL, Act.put, uAx, u0x, u1x, Nat.reduceAdd]
 rw [v1]
 clear v1
 clear hΦ
 clear e1
 obtain ⟨s8, a8, n8, c8, b8, _⟩ := S.at 1 (w.heap.size + 1) (IsI k2 z2) rfl; have F1 := b8.c0; have F2 := b8.c1; have F3 := b8.f0; have F4 := b8.f1
 refine wpList_step fun K hK => ?_; go_simp; refine hK _ _ ?_; clear hK K
 clear F1 F2 F3 F4 b8
 obtain ⟨W4, hW, S2, G2, _⟩ := S.put 1 (w.heap.size + 1) (IsI k2 z2) (IsI k2 z2.natAbs) rfl s9 a9 n9 c9 (IsI.gstb _ _) ⟨_, _, _, _, rfl, h9⟩
 rw [← hW]; clear hW S
 have S : St w W4 [(w.heap.size + 1 + 1, IsI 0 0), (w.heap.size + 1, IsI k2 z2.natAbs), (w.heap.size, IsI k1 z1.natAbs)] := S2; clear S2 G2
 clear h9
 refine wpList_nil ?_
 go_wp2_with fail
 have S0 := hid (show St w W4 [(w.heap.size + 1 + 1, IsI 0 0), (w.heap.size + 1, IsI (max k1 k2) (((z2.natAbs : Nat) : Int))), (w.heap.size, IsI (max k1 k2) (((z1.natAbs : Nat) : Int)))] from (S.weaken 1 _ _ (IsI (max k1 k2) ((z2.natAbs : Nat) : Int)) rfl (IsI.gstb _ _) (fun _ h => h.mono (Nat.le_max_right _ _))).weaken 2 _ _ (IsI (max k1 k2) ((z1.natAbs : Nat) : Int)) rfl (IsI.gstb _ _) (fun _ h => h.mono (Nat.le_max_left _ _))); clear S
 go_loopg [] z2.natAbs (fun gk wr => ∃ aa : Nat, Hid (Nat.gcd aa gk = Int.gcd z1 z2) ∧ Hid (St w wr [(w.heap.size + 1 + 1, IsI 0 0), (w.heap.size + 1, IsI (max k1 k2) ((gk : Nat) : Int)), (w.heap.size, IsI (max k1 k2) ((aa : Nat) : Int))]))
 case atStart => exact ⟨z1.natAbs, hid rfl, S0⟩
 case round =>
  clear S0
  obtain ⟨aa, HG, S⟩ := hrel
  have S := S.out
  rcases Nat.eq_zero_or_pos gk with hg | hg
  ·skip
   subst hg
   have HA := hid (show ((aa : Nat) : Int) = ((Int.gcd z1 z2 : Nat) : Int) by have h := HG.out; rw [Nat.gcd_zero_right] at h; rw [h])
   go_upto_region 3 with (fail)
   refine wp_region_rgs 4 [some 10, some 11, some 12, some 13] [IsV (.pointer (some ⟨w.heap.size + 1, 1, none⟩)), IsMag (max k1 k2) (((0 : Nat) : Int)), IsV (.int .i64 0), IsV (.bool false)] [] (by decide) (by kernel_rfl) (by kernel_rfl) (by kernel_rfl) ?_ ?_ ?_ ?_
   ·repeat' (first | exact trivial | exact IsV.stb _ | exact IsW.stb _ | exact IsWk.stb _ _ | exact IsI.stb _ _ | exact IsB.stb _ | exact IsR.stb _ _ | exact IsMag.stb _ _ | exact IsPos.stb | apply IsT3.stb | apply IsT2.stb | apply And.intro)
   ·exact (fun _ h => by cases h)
   ·refine RgAll.cons (by { (with_reducible refine RgL.mk (by rfl) ?_); intro v a w' hE hd hf; have ev0 := hf.lit 3 (.pointer (some ⟨w.heap.size + 1, 0, none⟩)) (by kernel_rfl) (by kernel_rfl); clear hd hf; intro K hK; go_simp; exact hK.out _ _ (Ext.refl _) rfl (FreshIf.no rfl) }) ?_
    refine RgAll.cons (by { (with_reducible refine RgL.mk (by rfl) ?_); intro v a w' hE hd hf; have d0 : v 0 = .pointer (some ⟨w.heap.size + 1, 1, none⟩) := hd 0 (by kernel_rfl); have ev0 := hf.val 0 10 _ d0 (by kernel_rfl) (by kernel_rfl) (by kernel_rfl); clear d0; obtain ⟨s8, a8, n8, c8, b8, h8⟩ := (S.mono hE).at 1 (w.heap.size + 1) (IsI (max k1 k2) (((0 : Nat) : Int))) rfl; have L0 := b8.c0; have L1 := b8.c1; obtain ⟨s9, a9, n9, c9, k9, h9⟩ := h8; injection k9 with k9; simp only [Array.mk.injEq, List.cons.injEq, Value.bool.injEq, Value.slice.injEq, and_true] at k9; obtain ⟨rfl, rfl, rfl, rfl⟩ := k9; clear hd hf; intro K hK; go_simp; exact hK.out _ _ (Ext.refl _) ⟨_, _, _, _, rfl, h9⟩ (FreshIf.no rfl) }) ?_
    refine RgAll.cons (by { (with_reducible refine RgL.mk (by rfl) ?_); intro v a w' hE hd hf; have d0 : (IsMag (max k1 k2) (((0 : Nat) : Int))) (v 1) w' := hd 1 (by kernel_rfl); obtain ⟨s9, a9, n9, c9, z0, h9⟩ := d0; have ev0 := hf.val 1 11 _ z0 (by kernel_rfl) (by kernel_rfl) (by kernel_rfl); clear z0; obtain rfl : n9 = 0 := h9.zero_iff.1 (rfl); clear hd hf; intro K hK; go_simp; exact hK.out _ _ (Ext.refl _) rfl (FreshIf.no rfl) }) ?_
    refine RgAll.cons (by { (with_reducible refine RgL.mk (by rfl) ?_); intro v a w' hE hd hf; have d0 : v 2 = .int .i64 0 := hd 2 (by kernel_rfl); have ev0 := hf.val 2 12 _ d0 (by kernel_rfl) (by kernel_rfl) (by kernel_rfl); clear d0; clear hd hf; intro K hK; go_simp; exact hK.out _ _ (Ext.refl _) rfl (FreshIf.no rfl) }) ?_
    exact RgAll.nil
   intro v W5 e1 hΦ _
   replace S := S.mono e1
   have v3 : v 3 = .bool false := hΦ 3 (by decide)
   simp only [layL, Act.put, uAx, u0x, u1x, Nat.reduceAdd]
   rw [v3]
   clear v3
   clear hΦ
   clear e1
   refine wpList_nil ?_
   go_upto_region 7 with (fail)
   refine wp_region_rgs 1 [some 19] [IsI (max k1 k2) (((aa : Nat) : Int))] [] (by decide) (by kernel_rfl) (by kernel_rfl) (by kernel_rfl) ?_ ?_ ?_ ?_
   ·repeat' (first | exact trivial | exact IsV.stb _ | exact IsW.stb _ | exact IsWk.stb _ _ | exact IsI.stb _ _ | exact IsB.stb _ | exact IsR.stb _ _ | exact IsMag.stb _ _ | exact IsPos.stb | apply IsT3.stb | apply IsT2.stb | apply And.intro)
   ·exact (fun _ h => by cases h)
   ·refine RgAll.cons (by { (with_reducible refine RgL.mk (by rfl) ?_); intro v a w' hE hd hf; have ev0 := hf.lit 2 (.pointer (some ⟨w.heap.size, 0, none⟩)) (by kernel_rfl) (by kernel_rfl); obtain ⟨s8, a8, n8, c8, b8, h8⟩ := (S.mono hE).at 2 (w.heap.size) (IsI (max k1 k2) (((aa : Nat) : Int))) rfl; have L0 := b8.c0; have L1 := b8.c1; clear hd hf; intro K hK; go_simp; exact hK.out _ _ (Ext.refl _) h8 (FreshIf.no rfl) }) ?_
    exact RgAll.nil
   intro v W6 e1 hΦ _
   replace S := S.mono e1
   obtain ⟨s19, a19, n19, c19, v0, h19⟩ := (hΦ 0 (by decide) : IsI (max k1 k2) (((aa : Nat) : Int)) (v 0) W6)
   simp only [layL, Act.put, uAx, u0x, u1x]
   rw [v0]
   clear v0
   clear hΦ
   clear e1
   obtain ⟨s8, a8, n8, c8, b8, _⟩ := S.at 0 (w.heap.size + 1 + 1) (IsI 0 0) rfl; have F1 := b8.c0; have F2 := b8.c1; have F3 := b8.f0; have F4 := b8.f1
   refine wpList_step fun K hK => ?_; go_simp; refine hK _ _ ?_; clear hK K
   clear F1 F2 F3 F4 b8
   obtain ⟨W7, hW, S2, G2, _⟩ := S.put 0 (w.heap.size + 1 + 1) (IsI 0 0) (IsI (max k1 k2) (((aa : Nat) : Int))) rfl s19 a19 n19 c19 (IsI.gstb _ _) ⟨_, _, _, _, rfl, h19⟩
   rw [← hW]; clear hW S
   have S : St w W7 [(w.heap.size + 1 + 1, IsI (max k1 k2) (((aa : Nat) : Int))), (w.heap.size + 1, IsI (max k1 k2) (((0 : Nat) : Int))), (w.heap.size, IsI (max k1 k2) (((aa : Nat) : Int)))] := S2; clear S2 G2
   clear h19
   refine wpList_nil ?_
   go_wp2_with fail
   obtain ⟨rs0, ra0, rn0, rc0, rb0, rh0⟩ := S.at 0 (w.heap.size + 1 + 1) (IsI (max k1 k2) (((aa : Nat) : Int))) rfl; have T0 := rb0.c0; have U0 := rb0.c1
   exact bodyPost_ret (v := .agg #[.bool rs0, .slice ra0 rn0 rc0]) (by simp [results, Tryz.results104, go_sem, T0, U0]) rfl (⟨_, rfl, S.ext, IsI.eqz' rh0 HA.out⟩)
  ·skip
   obtain ⟨m, hm⟩ : ∃ m, aa % gk = m := ⟨_, rfl⟩
   have HM := hid (show ((aa : Nat) : Int) % ((gk : Nat) : Int) = ((m : Nat) : Int) by rw [← hm]; simp)
   have HN := hid (show Nat.gcd gk m = Int.gcd z1 z2 by rw [← HG.out, ← hm, Nat.gcd_comm aa gk, Nat.gcd_rec gk aa, Nat.gcd_comm])
   have HL := hid (show m < gk by rw [← hm]; exact Nat.mod_lt _ hg)
   have HZ := hid (show ((gk : Nat) : Int) ≠ 0 by omega)
   clear hm hg
   go_upto_region 3 with (fail)
   refine wp_region_rgs 4 [some 10, some 11, some 12, some 13] [IsV (.pointer (some ⟨w.heap.size + 1, 1, none⟩)), IsMag (max k1 k2) (((gk : Nat) : Int)), IsPos, IsV (.bool true)] [] (by decide) (by kernel_rfl) (by kernel_rfl) (by kernel_rfl) ?_ ?_ ?_ ?_
   ·repeat' (first | exact trivial | exact IsV.stb _ | exact IsW.stb _ | exact IsWk.stb _ _ | exact IsI.stb _ _ | exact IsB.stb _ | exact IsR.stb _ _ | exact IsMag.stb _ _ | exact IsPos.stb | apply IsT3.stb | apply IsT2.stb | apply And.intro)
   ·exact (fun _ h => by cases h)
   ·refine RgAll.cons (by { (with_reducible refine RgL.mk (by rfl) ?_); intro v a w' hE hd hf; have ev0 := hf.lit 3 (.pointer (some ⟨w.heap.size + 1, 0, none⟩)) (by kernel_rfl) (by kernel_rfl); clear hd hf; intro K hK; go_simp; exact hK.out _ _ (Ext.refl _) rfl (FreshIf.no rfl) }) ?_
    refine RgAll.cons (by { (with_reducible refine RgL.mk (by rfl) ?_); intro v a w' hE hd hf; have d0 : v 0 = .pointer (some ⟨w.heap.size + 1, 1, none⟩) := hd 0 (by kernel_rfl); have ev0 := hf.val 0 10 _ d0 (by kernel_rfl) (by kernel_rfl) (by kernel_rfl); clear d0; obtain ⟨s8, a8, n8, c8, b8, h8⟩ := (S.mono hE).at 1 (w.heap.size + 1) (IsI (max k1 k2) (((gk : Nat) : Int))) rfl; have L0 := b8.c0; have L1 := b8.c1; obtain ⟨s9, a9, n9, c9, k9, h9⟩ := h8; injection k9 with k9; simp only [Array.mk.injEq, List.cons.injEq, Value.bool.injEq, Value.slice.injEq, and_true] at k9; obtain ⟨rfl, rfl, rfl, rfl⟩ := k9; clear hd hf; intro K hK; go_simp; exact hK.out _ _ (Ext.refl _) ⟨_, _, _, _, rfl, h9⟩ (FreshIf.no rfl) }) ?_
    refine RgAll.cons (by { (with_reducible refine RgL.mk (by rfl) ?_); intro v a w' hE hd hf; have d0 : (IsMag (max k1 k2) (((gk : Nat) : Int))) (v 1) w' := hd 1 (by kernel_rfl); obtain ⟨s9, a9, n9, c9, z0, h9⟩ := d0; have ev0 := hf.val 1 11 _ z0 (by kernel_rfl) (by kernel_rfl) (by kernel_rfl); clear z0; clear hd hf; intro K hK; go_simp; exact hK.out _ _ (Ext.refl _) ⟨n9, rfl, Nat.pos_of_ne_zero (fun h0 => (HZ.out) (h9.zero_iff.2 h0)), h9.len⟩ (FreshIf.no rfl) }) ?_
    refine RgAll.cons (by { (with_reducible refine RgL.mk (by rfl) ?_); intro v a w' hE hd hf; have d0 : IsPos (v 2) w' := hd 2 (by kernel_rfl); obtain ⟨n9, z0, p9, q9⟩ := d0; have ev0 := hf.val 2 12 _ z0 (by kernel_rfl) (by kernel_rfl) (by kernel_rfl); clear z0; have hb9 : ((n9 : Int) == 0) = false := (by rw [beq_eq_false_iff_ne]; omega); have hb8 : decide ((0 : Int) < (n9 : Int)) = true := (by simp; omega); have hb7 : decide (0 < n9) = true := (by simp; omega); have hb6 : (n9 == 0) = false := (by rw [beq_eq_false_iff_ne]; omega); clear hd hf; intro K hK; go_simp; exact hK.out _ _ (Ext.refl _) rfl (FreshIf.no rfl) }) ?_
    exact RgAll.nil
   intro v W9 e1 hΦ _
   replace S := S.mono e1
   have v3 : v 3 = .bool true := hΦ 3 (by decide)
   simp only [layL, Act.put, uAx, u0x, u1x, Nat.reduceAdd]
   rw [v3]
   clear v3
   clear hΦ
   clear e1
   refine wpList_nil ?_
   go_upto_region 4 with (fail)
   have hl := hid S.lt; have hw := S.ext.size
   refine wp_region_rgs 4 [some 14, some 15, some 16, some 5] [IsI (max k1 k2) (((aa : Nat) : Int)), IsI (max k1 k2) (((gk : Nat) : Int)), IsI (max k1 k2) (((m : Nat) : Int)), IsB W9] [3] (by decide) (by kernel_rfl) (by kernel_rfl) (by kernel_rfl) ?_ ?_ ?_ ?_
   ·repeat' (first | exact trivial | exact IsV.stb _ | exact IsW.stb _ | exact IsWk.stb _ _ | exact IsI.stb _ _ | exact IsB.stb _ | exact IsR.stb _ _ | exact IsMag.stb _ _ | exact IsPos.stb | apply IsT3.stb | apply IsT2.stb | apply And.intro)
   ·intro i hi; simp only [List.mem_cons, List.not_mem_nil, or_false] at hi; subst hi; exact IsB.box _
   ·refine RgAll.cons (by { (with_reducible refine RgL.mk (by rfl) ?_); intro v a w' hE hd hf; have ev0 := hf.lit 2 (.pointer (some ⟨w.heap.size, 0, none⟩)) (by kernel_rfl) (by kernel_rfl); obtain ⟨s8, a8, n8, c8, b8, h8⟩ := (S.mono hE).at 2 (w.heap.size) (IsI (max k1 k2) (((aa : Nat) : Int))) rfl; have L0 := b8.c0; have L1 := b8.c1; clear hd hf; intro K hK; go_simp; exact hK.out _ _ (Ext.refl _) h8 (FreshIf.no rfl) }) ?_
    refine RgAll.cons (by { (with_reducible refine RgL.mk (by rfl) ?_); intro v a w' hE hd hf; have ev0 := hf.lit 3 (.pointer (some ⟨w.heap.size + 1, 0, none⟩)) (by kernel_rfl) (by kernel_rfl); obtain ⟨s8, a8, n8, c8, b8, h8⟩ := (S.mono hE).at 1 (w.heap.size + 1) (IsI (max k1 k2) (((gk : Nat) : Int))) rfl; have L0 := b8.c0; have L1 := b8.c1; clear hd hf; intro K hK; go_simp; exact hK.out _ _ (Ext.refl _) h8 (FreshIf.no rfl) }) ?_
    refine RgAll.cons (by { (with_reducible refine RgL.mk (by rfl) ?_); intro v a w' hE hd hf; have d0 : (IsI (max k1 k2) (((aa : Nat) : Int))) (v 0) w' := hd 0 (by kernel_rfl); have ev0 := hf.val 0 14 _ rfl (by kernel_rfl) (by kernel_rfl) (by kernel_rfl); have d1 : (IsI (max k1 k2) (((gk : Nat) : Int))) (v 1) w' := hd 1 (by kernel_rfl); have ev1 := hf.val 1 15 _ rfl (by kernel_rfl) (by kernel_rfl) (by kernel_rfl); clear hd hf; intro K hK; go_simp; go_at_call 125; go_split_ands; (with_reducible refine Calls.mono (Calls.mono (RMod_f d0 d1 (by omega) (by omega) HZ.out) fun _ _ h => h.eqz HM.out) ?_); rintro e w2 ⟨x, rfl, e2, hx⟩; exact hK.out _ _ e2 hx (FreshIf.no rfl) }) ?_
    refine RgAll.cons (by { (with_reducible refine RgL.mk (by rfl) ?_); intro v a w' hE hd hf; skip; clear hd hf; intro K hK; go_simp; refine hK.out _ _ ((Ext.refl _).alloc _) ⟨_, rfl, hE.size, Bx.new _ _ _ _ _⟩ FreshIf.yes }) ?_
    exact RgAll.nil
   intro v W10 e1 hΦ _
   replace S := S.mono e1
   obtain ⟨s16, a16, n16, c16, v2, h16⟩ := (hΦ 2 (by decide) : IsI (max k1 k2) (((m : Nat) : Int)) (v 2) W10)
   obtain ⟨g5, v3, q2, b1⟩ := (hΦ 3 (by decide) : IsB W9 (v 3) W10)
   replace S := S.addN (Apart.old hl.out q2) (Nat.le_trans hw q2) b1
   clear b1
   simp only [layL, Act.put, uAx, u0x, u1x, Nat.reduceAdd]
   rw [v2, v3]
   clear v2 v3
   clear hΦ
   clear hl hw
   clear e1
   obtain ⟨s8, a8, n8, c8, b8, _⟩ := S.at 0 (g5) (IsI 0 0) rfl; have F1 := b8.c0; have F2 := b8.c1; have F3 := b8.f0; have F4 := b8.f1
   refine wpList_step fun K hK => ?_; go_simp; refine hK _ _ ?_; clear hK K
   clear F1 F2 F3 F4 b8
   obtain ⟨W11, hW, S2, G2, _⟩ := S.put 0 (g5) (IsI 0 0) (IsI (max k1 k2) (((m : Nat) : Int))) rfl s16 a16 n16 c16 (IsI.gstb _ _) ⟨_, _, _, _, rfl, h16⟩
   rw [← hW]; clear hW S
   have S : St w W11 [(g5, IsI (max k1 k2) (((m : Nat) : Int))), (w.heap.size + 1 + 1, IsI 0 0), (w.heap.size + 1, IsI (max k1 k2) (((gk : Nat) : Int))), (w.heap.size, IsI (max k1 k2) (((aa : Nat) : Int)))] := S2; clear S2 G2
   clear h16
   refine wpList_nil ?_
   go_upto_region 5 with (fail)
   refine wp_region_rgs 1 [some 17] [IsI (max k1 k2) (((gk : Nat) : Int))] [] (by decide) (by kernel_rfl) (by kernel_rfl) (by kernel_rfl) ?_ ?_ ?_ ?_
   ·repeat' (first | exact trivial | exact IsV.stb _ | exact IsW.stb _ | exact IsWk.stb _ _ | exact IsI.stb _ _ | exact IsB.stb _ | exact IsR.stb _ _ | exact IsMag.stb _ _ | exact IsPos.stb | apply IsT3.stb | apply IsT2.stb | apply And.intro)
   ·exact (fun _ h => by cases h)
   ·refine RgAll.cons (by { (with_reducible refine RgL.mk (by rfl) ?_); intro v a w' hE hd hf; have ev0 := hf.lit 3 (.pointer (some ⟨w.heap.size + 1, 0, none⟩)) (by kernel_rfl) (by kernel_rfl); obtain ⟨s8, a8, n8, c8, b8, h8⟩ := (S.mono hE).at 2 (w.heap.size + 1) (IsI (max k1 k2) (((gk : Nat) : Int))) rfl; have L0 := b8.c0; have L1 := b8.c1; clear hd hf; intro K hK; go_simp; exact hK.out _ _ (Ext.refl _) h8 (FreshIf.no rfl) }) ?_
    exact RgAll.nil
   intro v W12 e1 hΦ _
   replace S := S.mono e1
   obtain ⟨s17, a17, n17, c17, v0, h17⟩ := (hΦ 0 (by decide) : IsI (max k1 k2) (((gk : Nat) : Int)) (v 0) W12)
   simp only [layL, Act.put, uAx, u0x, u1x]
   rw [v0]
   clear v0
   clear hΦ
   clear e1
   obtain ⟨s8, a8, n8, c8, b8, _⟩ := S.at 3 (w.heap.size) (IsI (max k1 k2) (((aa : Nat) : Int))) rfl; have F1 := b8.c0; have F2 := b8.c1; have F3 := b8.f0; have F4 := b8.f1
   refine wpList_step fun K hK => ?_; go_simp; refine hK _ _ ?_; clear hK K
   clear F1 F2 F3 F4 b8
   obtain ⟨W13, hW, S2, G2, _⟩ := S.put 3 (w.heap.size) (IsI (max k1 k2) (((aa : Nat) : Int))) (IsI (max k1 k2) (((gk : Nat) : Int))) rfl s17 a17 n17 c17 (IsI.gstb _ _) ⟨_, _, _, _, rfl, h17⟩
   rw [← hW]; clear hW S
   have S : St w W13 [(g5, IsI (max k1 k2) (((m : Nat) : Int))), (w.heap.size + 1 + 1, IsI 0 0), (w.heap.size + 1, IsI (max k1 k2) (((gk : Nat) : Int))), (w.heap.size, IsI (max k1 k2) (((gk : Nat) : Int)))] := S2; clear S2 G2
   clear h17
   refine wpList_nil ?_
   go_upto_region 6 with (fail)
   refine wp_region_rgs 1 [some 18] [IsI (max k1 k2) (((m : Nat) : Int))] [] (by decide) (by kernel_rfl) (by kernel_rfl) (by kernel_rfl) ?_ ?_ ?_ ?_
   ·repeat' (first | exact trivial | exact IsV.stb _ | exact IsW.stb _ | exact IsWk.stb _ _ | exact IsI.stb _ _ | exact IsB.stb _ | exact IsR.stb _ _ | exact IsMag.stb _ _ | exact IsPos.stb | apply IsT3.stb | apply IsT2.stb | apply And.intro)
   ·exact (fun _ h => by cases h)
   ·refine RgAll.cons (by { (with_reducible refine RgL.mk (by rfl) ?_); intro v a w' hE hd hf; have ev0 := hf.lit 5 (.pointer (some ⟨g5, 0, none⟩)) (by kernel_rfl) (by kernel_rfl); obtain ⟨s8, a8, n8, c8, b8, h8⟩ := (S.mono hE).at 0 (g5) (IsI (max k1 k2) (((m : Nat) : Int))) rfl; have L0 := b8.c0; have L1 := b8.c1; clear hd hf; intro K hK; go_simp; exact hK.out _ _ (Ext.refl _) h8 (FreshIf.no rfl) }) ?_
    exact RgAll.nil
   intro v W14 e1 hΦ _
   replace S := S.mono e1
   obtain ⟨s18, a18, n18, c18, v0, h18⟩ := (hΦ 0 (by decide) : IsI (max k1 k2) (((m : Nat) : Int)) (v 0) W14)
   simp only [layL, Act.put, uAx, u0x, u1x]
   rw [v0]
   clear v0
   clear hΦ
   clear e1
   obtain ⟨s8, a8, n8, c8, b8, _⟩ := S.at 2 (w.heap.size + 1) (IsI (max k1 k2) (((gk : Nat) : Int))) rfl; have F1 := b8.c0; have F2 := b8.c1; have F3 := b8.f0; have F4 := b8.f1
   refine wpList_step fun K hK => ?_; go_simp; refine hK _ _ ?_; clear hK K
   clear F1 F2 F3 F4 b8
   obtain ⟨W15, hW, S2, G2, _⟩ := S.put 2 (w.heap.size + 1) (IsI (max k1 k2) (((gk : Nat) : Int))) (IsI (max k1 k2) (((m : Nat) : Int))) rfl s18 a18 n18 c18 (IsI.gstb _ _) ⟨_, _, _, _, rfl, h18⟩
   rw [← hW]; clear hW S
   have S : St w W15 [(g5, IsI (max k1 k2) (((m : Nat) : Int))), (w.heap.size + 1 + 1, IsI 0 0), (w.heap.size + 1, IsI (max k1 k2) (((m : Nat) : Int))), (w.heap.size, IsI (max k1 k2) (((gk : Nat) : Int)))] := S2; clear S2 G2
   clear h18
   refine wpList_nil ?_
   have S' := hid S.tail; clear S
   go_wp2_with fail
   go_roundg m
   case measure => exact HL.out
   case rel => exact ⟨gk, HN, S'⟩
end Go.Proofs.YtkeikfekkdplgaaGreatDoor
