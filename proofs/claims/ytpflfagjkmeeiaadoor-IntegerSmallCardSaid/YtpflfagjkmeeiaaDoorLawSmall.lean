/-
  The statement IntegerSmall: for every two numbers of 32 bits and every integer that stands in memory the law answers true, and the arguments read behind the call as they read before. The listed package variables hold what the program's text lays (the card ties them).
-/
import Derived.Test.YtpflfagjkmeeiaaDoorEx
import Derived.Test.YtpflfagjkmeeiaaDoorVal2
import Derived.Test.YtpflfagjkmeeiaaDoorRead
import Derived.Test.YtpflfagjkmeeiaaDoorTie
import Derived.Test.YtpflfagjkmeeiaaDoorCards
import Derived.SevenTiedAt
namespace Go.Proofs.YtpflfagjkmeeiaaDoor
open Go Go.RowKit

theorem ValidR_f {s : Bool} {xs : List Nat} {x : Value} {w : World} (hx : IsR s xs x w) : Calls Tryd.prog 30 #[x] w (Ret w (IsV (.bool (validb s xs)))) := by
  obtain ⟨a, n, c, rfl, h⟩ := hx
  exact Valid_w w s a n c xs h
theorem RValidR_f {s : Bool} {xs : List Nat} {x : Value} {w : World} (hx : IsR s xs x w) : Calls Tryd.prog 31 #[x] w (Ret w (IsV (.bool (validb s xs)))) := by
  obtain ⟨a, n, c, rfl, h⟩ := hx
  exact RValid_w w s a n c xs h
theorem mul_small (x y : Int) (lx : -2147483648 ≤ x) (ux : x ≤ 2147483647) (ly : -2147483648 ≤ y) (uy : y ≤ 2147483647) : -4611686018427387904 ≤ x * y ∧ x * y ≤ 4611686018427387904 := by
  have h : (x * y).natAbs ≤ 2147483648 * 2147483648 := by rw [Int.natAbs_mul]; exact Nat.mul_le_mul (by omega) (by omega)
  omega
theorem cmp_bools (x y c : Int) (b1 b2 : Bool) (hc : cmpI x y = c) (h1 : decide (x < y) = b1) (h2 : (x == y) = b2) : decide (c < 0) = b1 ∧ decide (x < y) = b1 ∧ (c == 0) = b2 ∧ (x == y) = b2 := by
  refine ⟨?_, h1, ?_, h2⟩
  · rw [← h1, ← hc]
    rcases Int.lt_trichotomy x y with h | h | h
    · rw [cmpI_lt h]; simp [h]
    · rw [cmpI_eq h]; simp [h]
    · rw [cmpI_gt h]; simp; omega
  · rw [← h2, ← hc]
    rcases Int.lt_trichotomy x y with h | h | h
    · rw [cmpI_lt h]; simp; omega
    · rw [cmpI_eq h]; simp [h]
    · rw [cmpI_gt h]; simp; omega

set_option maxRecDepth 100000 in
set_option maxHeartbeats 8000000 in
theorem Small_0 (w : World) (xx yy : Int) (s3 : Bool) (a3 : Option Addr) (n3 c3 : Nat) (x3 : List Nat) (h3 : Wd w a3 n3 c3 x3) (ht : Tab w) (lx : -2147483648 ≤ xx) (ux : xx ≤ 2147483647) (ly : -2147483648 ≤ yy) (uy : yy ≤ 2147483647) (hz : yy = 0) :
    Calls Tryd.prog 8 #[.int .i32 xx, .int .i32 yy, .agg #[.bool s3, .slice a3 n3 c3]] w (Ret w (IsV (.bool true))) := by
  have pr : -4611686018427387904 ≤ xx * yy ∧ xx * yy ≤ 4611686018427387904 := mul_small xx yy lx ux ly uy
  obtain ⟨cc, hcc⟩ : ∃ c, cmpI xx yy = c := ⟨_, rfl⟩
  obtain ⟨b1, hb1⟩ : ∃ b, decide (xx < yy) = b := ⟨_, rfl⟩
  obtain ⟨b2, hb2⟩ : ∃ b, (xx == yy) = b := ⟨_, rfl⟩
  obtain ⟨vb, hvb⟩ : ∃ b, validb s3 x3 = b := ⟨_, rfl⟩
  have HC := hid hcc
  have HV := hid hvb
  have HB := hid (cmp_bools xx yy cc b1 b2 hcc hb1 hb2)
  have HWX := hid (show IntKind.i64.wrap (xx) = xx by simp only [IntKind.wrap_i64]; omega)
  have HWY := hid (show IntKind.i64.wrap (yy) = yy by simp only [IntKind.wrap_i64]; omega)
  have HWS := hid (show IntKind.i64.wrap (xx + yy) = xx + yy by simp only [IntKind.wrap_i64]; omega)
  have HWP := hid (show IntKind.i64.wrap (xx * yy) = xx * yy by simp only [IntKind.wrap_i64]; omega)
  have HX := hid (show -9223372036854775808 ≤ xx ∧ xx ≤ 9223372036854775807 from ⟨by omega, by omega⟩)
  have HY := hid (show -9223372036854775808 ≤ yy ∧ yy ≤ 9223372036854775807 from ⟨by omega, by omega⟩)
  have HSR := hid (show -9223372036854775808 ≤ xx + yy ∧ xx + yy ≤ 9223372036854775807 from ⟨by omega, by omega⟩)
  have HPR := hid (show -9223372036854775808 ≤ xx * yy ∧ xx * yy ≤ 9223372036854775807 from ⟨by omega, by omega⟩)
  have HZ := hid hz
  have HZB := hid (show (yy != 0) = false by simp [hz])
  clear lx ux ly uy pr hcc hb1 hb2 hvb hz
  obtain ⟨W, hW, S⟩ : ∃ W, W = w.alloc (.cells #[.bool s3, .slice a3 n3 c3] 27) ∧ St w W [(w.heap.size, IsR s3 x3)] := ⟨_, rfl, ((St.start w).new' (w.heap.size) (by simp) s3 a3 n3 c3 27 (IsR s3 x3) (IsR.gstb _ _) ⟨_, _, _, rfl, h3⟩)⟩
  clear h3
  go_enter Tryd.func8, Tryd.ntmps8
  go_upto_region 1 with (fail)
  rw [← hW]
  clear hW
  refine wp_region_rgs 2 [some 33, some 7] [IsV (.bool true), IsV (.bool true)] [] (by decide) (by kernel_rfl) (by kernel_rfl) (by kernel_rfl) ?_ ?_ ?_ ?_
  · repeat' (first | exact trivial | exact IsV.stb _ | exact IsW.stb _ | exact IsWk.stb _ _ | exact IsI.stb _ _ | exact IsB.stb _ | exact IsR.stb _ _ | exact IsMag.stb _ _ | exact IsPos.stb | apply IsT3.stb | apply IsT2.stb | apply And.intro)
  · exact (fun _ h => by cases h)
  · refine RgAll.cons (by { (with_reducible refine RgL.mk (by rfl) ?_); intro v a w' hE hd hf; skip; clear hd hf; intro K hK; go_simp; go_at_call 9; go_split_ands; (with_reducible refine Calls.mono (examples_f _ (ht.ext (S.ext.trans hE))) ?_); rintro e w2 ⟨x, rfl, e2, hx⟩; exact hK.out _ _ e2 hx (FreshIf.no rfl) }) ?_
    refine RgAll.cons (by { (with_reducible refine RgL.mk (by rfl) ?_); intro v a w' hE hd hf; have d0 : v 0 = .bool true := hd 0 (by kernel_rfl); have ev0 := hf.val 0 33 _ d0 (by kernel_rfl) (by kernel_rfl) (by kernel_rfl); clear d0; clear hd hf; intro K hK; go_simp; exact hK.out _ _ (Ext.refl _) rfl (FreshIf.no rfl) }) ?_
    exact RgAll.nil
  intro v W1 e1 hΦ _
  replace S := S.mono e1
  have v1 : v 1 = .bool true := hΦ 1 (by decide)
  simp only [layL, Act.put, List.setIfInBounds_toArray, List.set_cons_zero, List.set_cons_succ, Nat.reduceAdd]
  rw [v1]
  clear v1
  clear hΦ
  clear e1
  refine wpList_nil ?_
  go_upto_region 4 with (fail)
  refine wp_region_rgs 3 [some 36, some 37, some 8] [IsV (.int .i32 xx), IsV (.int .i64 xx), IsV (.int .i64 xx)] [] (by decide) (by kernel_rfl) (by kernel_rfl) (by kernel_rfl) ?_ ?_ ?_ ?_
  · repeat' (first | exact trivial | exact IsV.stb _ | exact IsW.stb _ | exact IsWk.stb _ _ | exact IsI.stb _ _ | exact IsB.stb _ | exact IsR.stb _ _ | exact IsMag.stb _ _ | exact IsPos.stb | apply IsT3.stb | apply IsT2.stb | apply And.intro)
  · exact (fun _ h => by cases h)
  · refine RgAll.cons (by { (with_reducible refine RgL.mk (by rfl) ?_); intro v a w' hE hd hf; have ev0 := hf.lit 0 (.int .i32 xx) (by kernel_rfl) (by kernel_rfl); clear hd hf; intro K hK; go_simp; exact hK.out _ _ (Ext.refl _) rfl (FreshIf.no rfl) }) ?_
    refine RgAll.cons (by { (with_reducible refine RgL.mk (by rfl) ?_); intro v a w' hE hd hf; have d0 : v 0 = .int .i32 xx := hd 0 (by kernel_rfl); have ev0 := hf.val 0 36 _ d0 (by kernel_rfl) (by kernel_rfl) (by kernel_rfl); clear d0; have hx9 := HWX.out; clear hd hf; intro K hK; go_simp; exact hK.out _ _ (Ext.refl _) rfl (FreshIf.no rfl) }) ?_
    refine RgAll.cons (by { (with_reducible refine RgL.mk (by rfl) ?_); intro v a w' hE hd hf; have d0 : v 1 = .int .i64 xx := hd 1 (by kernel_rfl); have ev0 := hf.val 1 37 _ d0 (by kernel_rfl) (by kernel_rfl) (by kernel_rfl); clear d0; clear hd hf; intro K hK; go_simp; exact hK.out _ _ (Ext.refl _) rfl (FreshIf.no rfl) }) ?_
    exact RgAll.nil
  intro v W2 e1 hΦ _
  replace S := S.mono e1
  have v2 : v 2 = .int .i64 xx := hΦ 2 (by decide)
  simp only [layL, Act.put, List.setIfInBounds_toArray, List.set_cons_zero, List.set_cons_succ, Nat.reduceAdd]
  rw [v2]
  clear v2
  clear hΦ
  clear e1
  refine wpList_nil ?_
  go_upto_region 5 with (fail)
  refine wp_region_rgs 3 [some 38, some 39, some 9] [IsV (.int .i32 yy), IsV (.int .i64 yy), IsV (.int .i64 yy)] [] (by decide) (by kernel_rfl) (by kernel_rfl) (by kernel_rfl) ?_ ?_ ?_ ?_
  · repeat' (first | exact trivial | exact IsV.stb _ | exact IsW.stb _ | exact IsWk.stb _ _ | exact IsI.stb _ _ | exact IsB.stb _ | exact IsR.stb _ _ | exact IsMag.stb _ _ | exact IsPos.stb | apply IsT3.stb | apply IsT2.stb | apply And.intro)
  · exact (fun _ h => by cases h)
  · refine RgAll.cons (by { (with_reducible refine RgL.mk (by rfl) ?_); intro v a w' hE hd hf; have ev0 := hf.lit 1 (.int .i32 yy) (by kernel_rfl) (by kernel_rfl); clear hd hf; intro K hK; go_simp; exact hK.out _ _ (Ext.refl _) rfl (FreshIf.no rfl) }) ?_
    refine RgAll.cons (by { (with_reducible refine RgL.mk (by rfl) ?_); intro v a w' hE hd hf; have d0 : v 0 = .int .i32 yy := hd 0 (by kernel_rfl); have ev0 := hf.val 0 38 _ d0 (by kernel_rfl) (by kernel_rfl) (by kernel_rfl); clear d0; have hx9 := HWY.out; clear hd hf; intro K hK; go_simp; exact hK.out _ _ (Ext.refl _) rfl (FreshIf.no rfl) }) ?_
    refine RgAll.cons (by { (with_reducible refine RgL.mk (by rfl) ?_); intro v a w' hE hd hf; have d0 : v 1 = .int .i64 yy := hd 1 (by kernel_rfl); have ev0 := hf.val 1 39 _ d0 (by kernel_rfl) (by kernel_rfl) (by kernel_rfl); clear d0; clear hd hf; intro K hK; go_simp; exact hK.out _ _ (Ext.refl _) rfl (FreshIf.no rfl) }) ?_
    exact RgAll.nil
  intro v W3 e1 hΦ _
  replace S := S.mono e1
  have v2 : v 2 = .int .i64 yy := hΦ 2 (by decide)
  simp only [layL, Act.put, List.setIfInBounds_toArray, List.set_cons_zero, List.set_cons_succ, Nat.reduceAdd]
  rw [v2]
  clear v2
  clear hΦ
  clear e1
  refine wpList_nil ?_
  go_upto_region 6 with (fail)
  have hl := hid S.lt; have hw := S.ext.size
  refine wp_region_rgs 3 [some 40, some 41, some 10] [IsV (.int .i64 xx), IsI 2 xx, IsB W3] [2] (by decide) (by kernel_rfl) (by kernel_rfl) (by kernel_rfl) ?_ ?_ ?_ ?_
  · repeat' (first | exact trivial | exact IsV.stb _ | exact IsW.stb _ | exact IsWk.stb _ _ | exact IsI.stb _ _ | exact IsB.stb _ | exact IsR.stb _ _ | exact IsMag.stb _ _ | exact IsPos.stb | apply IsT3.stb | apply IsT2.stb | apply And.intro)
  · intro i hi; simp only [List.mem_cons, List.not_mem_nil, or_false] at hi; subst hi; exact IsB.box _
  · refine RgAll.cons (by { (with_reducible refine RgL.mk (by rfl) ?_); intro v a w' hE hd hf; have ev0 := hf.lit 8 (.int .i64 xx) (by kernel_rfl) (by kernel_rfl); clear hd hf; intro K hK; go_simp; exact hK.out _ _ (Ext.refl _) rfl (FreshIf.no rfl) }) ?_
    refine RgAll.cons (by { (with_reducible refine RgL.mk (by rfl) ?_); intro v a w' hE hd hf; have d0 : v 0 = .int .i64 xx := hd 0 (by kernel_rfl); have ev0 := hf.val 0 40 _ d0 (by kernel_rfl) (by kernel_rfl) (by kernel_rfl); clear d0; clear hd hf; intro K hK; go_simp; go_at_call 23; go_split_ands; (with_reducible refine Calls.mono (Of_f _ xx HX.out.1 HX.out.2) ?_); rintro e w2 ⟨x, rfl, e2, hx⟩; exact hK.out _ _ e2 hx (FreshIf.no rfl) }) ?_
    refine RgAll.cons (by { (with_reducible refine RgL.mk (by rfl) ?_); intro v a w' hE hd hf; skip; clear hd hf; intro K hK; go_simp; refine hK.out _ _ ((Ext.refl _).alloc _) ⟨_, rfl, hE.size, Bx.new _ _ _ _ _⟩ FreshIf.yes }) ?_
    exact RgAll.nil
  intro v W4 e1 hΦ _
  replace S := S.mono e1
  obtain ⟨s41, a41, n41, c41, v1, h41⟩ := (hΦ 1 (by decide) : IsI 2 xx (v 1) W4)
  obtain ⟨g10, v2, q2, b1⟩ := (hΦ 2 (by decide) : IsB W3 (v 2) W4)
  replace S := S.addN (Apart.old hl.out q2) (Nat.le_trans hw q2) b1
  clear b1
  simp only [layL, Act.put, List.setIfInBounds_toArray, List.set_cons_zero, List.set_cons_succ, Nat.reduceAdd]
  rw [v1, v2]
  clear v1 v2
  clear hΦ
  clear hl hw
  clear e1
  obtain ⟨s8, a8, n8, c8, b8, _⟩ := S.at 0 (g10) (IsI 0 0) rfl; have F1 := b8.c0; have F2 := b8.c1; have F3 := b8.f0; have F4 := b8.f1
  refine wpList_step fun K hK => ?_; go_simp; refine hK _ _ ?_; clear hK K
  clear F1 F2 F3 F4 b8
  obtain ⟨W5, hW, S2, G2, _⟩ := S.put 0 (g10) (IsI 0 0) (IsI 2 xx) rfl s41 a41 n41 c41 (IsI.gstb _ _) ⟨_, _, _, _, rfl, h41⟩
  rw [← hW]; clear hW S
  have S : St w W5 [(g10, IsI 2 xx), (w.heap.size, IsR s3 x3)] := S2; clear S2 G2
  clear h41
  refine wpList_nil ?_
  go_upto_region 7 with (fail)
  have hl := hid S.lt; have hw := S.ext.size
  refine wp_region_rgs 3 [some 42, some 43, some 11] [IsV (.int .i64 yy), IsI 2 yy, IsB W5] [2] (by decide) (by kernel_rfl) (by kernel_rfl) (by kernel_rfl) ?_ ?_ ?_ ?_
  · repeat' (first | exact trivial | exact IsV.stb _ | exact IsW.stb _ | exact IsWk.stb _ _ | exact IsI.stb _ _ | exact IsB.stb _ | exact IsR.stb _ _ | exact IsMag.stb _ _ | exact IsPos.stb | apply IsT3.stb | apply IsT2.stb | apply And.intro)
  · intro i hi; simp only [List.mem_cons, List.not_mem_nil, or_false] at hi; subst hi; exact IsB.box _
  · refine RgAll.cons (by { (with_reducible refine RgL.mk (by rfl) ?_); intro v a w' hE hd hf; have ev0 := hf.lit 9 (.int .i64 yy) (by kernel_rfl) (by kernel_rfl); clear hd hf; intro K hK; go_simp; exact hK.out _ _ (Ext.refl _) rfl (FreshIf.no rfl) }) ?_
    refine RgAll.cons (by { (with_reducible refine RgL.mk (by rfl) ?_); intro v a w' hE hd hf; have d0 : v 0 = .int .i64 yy := hd 0 (by kernel_rfl); have ev0 := hf.val 0 42 _ d0 (by kernel_rfl) (by kernel_rfl) (by kernel_rfl); clear d0; clear hd hf; intro K hK; go_simp; go_at_call 23; go_split_ands; (with_reducible refine Calls.mono (Of_f _ yy HY.out.1 HY.out.2) ?_); rintro e w2 ⟨x, rfl, e2, hx⟩; exact hK.out _ _ e2 hx (FreshIf.no rfl) }) ?_
    refine RgAll.cons (by { (with_reducible refine RgL.mk (by rfl) ?_); intro v a w' hE hd hf; skip; clear hd hf; intro K hK; go_simp; refine hK.out _ _ ((Ext.refl _).alloc _) ⟨_, rfl, hE.size, Bx.new _ _ _ _ _⟩ FreshIf.yes }) ?_
    exact RgAll.nil
  intro v W6 e1 hΦ _
  replace S := S.mono e1
  obtain ⟨s43, a43, n43, c43, v1, h43⟩ := (hΦ 1 (by decide) : IsI 2 yy (v 1) W6)
  obtain ⟨g11, v2, q4, b3⟩ := (hΦ 2 (by decide) : IsB W5 (v 2) W6)
  replace S := S.addN (Apart.old hl.out q4) (Nat.le_trans hw q4) b3
  clear b3
  simp only [layL, Act.put, List.setIfInBounds_toArray, List.set_cons_zero, List.set_cons_succ, Nat.reduceAdd]
  rw [v1, v2]
  clear v1 v2
  clear hΦ
  clear hl hw
  clear e1
  obtain ⟨s8, a8, n8, c8, b8, _⟩ := S.at 0 (g11) (IsI 0 0) rfl; have F1 := b8.c0; have F2 := b8.c1; have F3 := b8.f0; have F4 := b8.f1
  refine wpList_step fun K hK => ?_; go_simp; refine hK _ _ ?_; clear hK K
  clear F1 F2 F3 F4 b8
  obtain ⟨W7, hW, S2, G2, _⟩ := S.put 0 (g11) (IsI 0 0) (IsI 2 yy) rfl s43 a43 n43 c43 (IsI.gstb _ _) ⟨_, _, _, _, rfl, h43⟩
  rw [← hW]; clear hW S
  have S : St w W7 [(g11, IsI 2 yy), (g10, IsI 2 xx), (w.heap.size, IsR s3 x3)] := S2; clear S2 G2
  clear h43
  refine wpList_nil ?_
  go_upto_region 8 with (fail)
  refine wp_region_rgs 9 [some 45, some 46, some 47, some 48, some 44, some 49, some 50, some 12, some 13] [IsI 2 xx, IsI 2 yy, IsI 3 (xx + yy), IsT2 (IsV (.int .i64 (xx + yy))) (IsV (.bool true)), IsT2 (IsV (.int .i64 (xx + yy))) (IsV (.bool true)), IsV (.int .i64 (xx + yy)), IsV (.bool true), IsV (.int .i64 (xx + yy)), IsV (.bool true)] [] (by decide) (by kernel_rfl) (by kernel_rfl) (by kernel_rfl) ?_ ?_ ?_ ?_
  · repeat' (first | exact trivial | exact IsV.stb _ | exact IsW.stb _ | exact IsWk.stb _ _ | exact IsI.stb _ _ | exact IsB.stb _ | exact IsR.stb _ _ | exact IsMag.stb _ _ | exact IsPos.stb | apply IsT3.stb | apply IsT2.stb | apply And.intro)
  · exact (fun _ h => by cases h)
  · refine RgAll.cons (by { (with_reducible refine RgL.mk (by rfl) ?_); intro v a w' hE hd hf; have ev0 := hf.lit 10 (.pointer (some ⟨g10, 0, none⟩)) (by kernel_rfl) (by kernel_rfl); obtain ⟨s8, a8, n8, c8, b8, h8⟩ := (S.mono hE).at 1 (g10) (IsI 2 xx) rfl; have L0 := b8.c0; have L1 := b8.c1; clear hd hf; intro K hK; go_simp; exact hK.out _ _ (Ext.refl _) h8 (FreshIf.no rfl) }) ?_
    refine RgAll.cons (by { (with_reducible refine RgL.mk (by rfl) ?_); intro v a w' hE hd hf; have ev0 := hf.lit 11 (.pointer (some ⟨g11, 0, none⟩)) (by kernel_rfl) (by kernel_rfl); obtain ⟨s8, a8, n8, c8, b8, h8⟩ := (S.mono hE).at 0 (g11) (IsI 2 yy) rfl; have L0 := b8.c0; have L1 := b8.c1; clear hd hf; intro K hK; go_simp; exact hK.out _ _ (Ext.refl _) h8 (FreshIf.no rfl) }) ?_
    refine RgAll.cons (by { (with_reducible refine RgL.mk (by rfl) ?_); intro v a w' hE hd hf; have d0 : (IsI 2 xx) (v 0) w' := hd 0 (by kernel_rfl); have ev0 := hf.val 0 45 _ rfl (by kernel_rfl) (by kernel_rfl) (by kernel_rfl); have d1 : (IsI 2 yy) (v 1) w' := hd 1 (by kernel_rfl); have ev1 := hf.val 1 46 _ rfl (by kernel_rfl) (by kernel_rfl) (by kernel_rfl); clear hd hf; intro K hK; go_simp; go_at_call 12; go_split_ands; (with_reducible refine Calls.mono (Add_f d0 d1 (by decide) (by decide)) ?_); rintro e w2 ⟨x, rfl, e2, hx⟩; exact hK.out _ _ e2 hx (FreshIf.no rfl) }) ?_
    refine RgAll.cons (by { (with_reducible refine RgL.mk (by rfl) ?_); intro v a w' hE hd hf; have d0 : (IsI 3 (xx + yy)) (v 2) w' := hd 2 (by kernel_rfl); have ev0 := hf.val 2 47 _ rfl (by kernel_rfl) (by kernel_rfl) (by kernel_rfl); clear hd hf; intro K hK; go_simp; go_at_call 32; go_split_ands; (with_reducible refine Calls.mono (Low_t d0 HSR.out.1 HSR.out.2) ?_); rintro e w2 ⟨x, rfl, e2, hx⟩; exact hK.out _ _ e2 hx (FreshIf.no rfl) }) ?_
    refine RgAll.cons (by { (with_reducible refine RgL.mk (by rfl) ?_); intro v a w' hE hd hf; have d0 : (IsT2 (IsV (.int .i64 (xx + yy))) (IsV (.bool true))) (v 3) w' := hd 3 (by kernel_rfl); have ev0 := hf.val 3 48 _ rfl (by kernel_rfl) (by kernel_rfl) (by kernel_rfl); clear hd hf; intro K hK; go_simp; exact hK.out _ _ (Ext.refl _) d0 (FreshIf.no rfl) }) ?_
    refine RgAll.cons (by { (with_reducible refine RgL.mk (by rfl) ?_); intro v a w' hE hd hf; have d0 : (IsT2 (IsV (.int .i64 (xx + yy))) (IsV (.bool true))) (v 4) w' := hd 4 (by kernel_rfl); obtain ⟨x0, x1, z0, y0, y1⟩ := d0; have ev0 := hf.val 4 44 _ z0 (by kernel_rfl) (by kernel_rfl) (by kernel_rfl); clear z0; clear hd hf; intro K hK; go_simp; exact hK.out _ _ (Ext.refl _) y0 (FreshIf.no rfl) }) ?_
    refine RgAll.cons (by { (with_reducible refine RgL.mk (by rfl) ?_); intro v a w' hE hd hf; have d0 : (IsT2 (IsV (.int .i64 (xx + yy))) (IsV (.bool true))) (v 4) w' := hd 4 (by kernel_rfl); obtain ⟨x0, x1, z0, y0, y1⟩ := d0; have ev0 := hf.val 4 44 _ z0 (by kernel_rfl) (by kernel_rfl) (by kernel_rfl); clear z0; clear hd hf; intro K hK; go_simp; exact hK.out _ _ (Ext.refl _) y1 (FreshIf.no rfl) }) ?_
    refine RgAll.cons (by { (with_reducible refine RgL.mk (by rfl) ?_); intro v a w' hE hd hf; have d0 : v 5 = .int .i64 (xx + yy) := hd 5 (by kernel_rfl); have ev0 := hf.val 5 49 _ d0 (by kernel_rfl) (by kernel_rfl) (by kernel_rfl); clear d0; clear hd hf; intro K hK; go_simp; exact hK.out _ _ (Ext.refl _) rfl (FreshIf.no rfl) }) ?_
    refine RgAll.cons (by { (with_reducible refine RgL.mk (by rfl) ?_); intro v a w' hE hd hf; have d0 : v 6 = .bool true := hd 6 (by kernel_rfl); have ev0 := hf.val 6 50 _ d0 (by kernel_rfl) (by kernel_rfl) (by kernel_rfl); clear d0; clear hd hf; intro K hK; go_simp; exact hK.out _ _ (Ext.refl _) rfl (FreshIf.no rfl) }) ?_
    exact RgAll.nil
  intro v W8 e1 hΦ _
  replace S := S.mono e1
  have v7 : v 7 = .int .i64 (xx + yy) := hΦ 7 (by decide)
  have v8 : v 8 = .bool true := hΦ 8 (by decide)
  simp only [layL, Act.put, List.setIfInBounds_toArray, List.set_cons_zero, List.set_cons_succ, Nat.reduceAdd]
  rw [v7, v8]
  clear v7 v8
  clear hΦ
  clear e1
  refine wpList_nil ?_
  go_upto_region 9 with (fail)
  refine wp_region_rgs 9 [some 52, some 53, some 54, some 55, some 51, some 56, some 57, some 14, some 15] [IsI 2 xx, IsI 2 yy, IsI 4 (xx * yy), IsT2 (IsV (.int .i64 (xx * yy))) (IsV (.bool true)), IsT2 (IsV (.int .i64 (xx * yy))) (IsV (.bool true)), IsV (.int .i64 (xx * yy)), IsV (.bool true), IsV (.int .i64 (xx * yy)), IsV (.bool true)] [] (by decide) (by kernel_rfl) (by kernel_rfl) (by kernel_rfl) ?_ ?_ ?_ ?_
  · repeat' (first | exact trivial | exact IsV.stb _ | exact IsW.stb _ | exact IsWk.stb _ _ | exact IsI.stb _ _ | exact IsB.stb _ | exact IsR.stb _ _ | exact IsMag.stb _ _ | exact IsPos.stb | apply IsT3.stb | apply IsT2.stb | apply And.intro)
  · exact (fun _ h => by cases h)
  · refine RgAll.cons (by { (with_reducible refine RgL.mk (by rfl) ?_); intro v a w' hE hd hf; have ev0 := hf.lit 10 (.pointer (some ⟨g10, 0, none⟩)) (by kernel_rfl) (by kernel_rfl); obtain ⟨s8, a8, n8, c8, b8, h8⟩ := (S.mono hE).at 1 (g10) (IsI 2 xx) rfl; have L0 := b8.c0; have L1 := b8.c1; clear hd hf; intro K hK; go_simp; exact hK.out _ _ (Ext.refl _) h8 (FreshIf.no rfl) }) ?_
    refine RgAll.cons (by { (with_reducible refine RgL.mk (by rfl) ?_); intro v a w' hE hd hf; have ev0 := hf.lit 11 (.pointer (some ⟨g11, 0, none⟩)) (by kernel_rfl) (by kernel_rfl); obtain ⟨s8, a8, n8, c8, b8, h8⟩ := (S.mono hE).at 0 (g11) (IsI 2 yy) rfl; have L0 := b8.c0; have L1 := b8.c1; clear hd hf; intro K hK; go_simp; exact hK.out _ _ (Ext.refl _) h8 (FreshIf.no rfl) }) ?_
    refine RgAll.cons (by { (with_reducible refine RgL.mk (by rfl) ?_); intro v a w' hE hd hf; have d0 : (IsI 2 xx) (v 0) w' := hd 0 (by kernel_rfl); have ev0 := hf.val 0 52 _ rfl (by kernel_rfl) (by kernel_rfl) (by kernel_rfl); have d1 : (IsI 2 yy) (v 1) w' := hd 1 (by kernel_rfl); have ev1 := hf.val 1 53 _ rfl (by kernel_rfl) (by kernel_rfl) (by kernel_rfl); clear hd hf; intro K hK; go_simp; go_at_call 13; go_split_ands; (with_reducible refine Calls.mono (Mul_f d0 d1 (by decide) (by decide)) ?_); rintro e w2 ⟨x, rfl, e2, hx⟩; exact hK.out _ _ e2 hx (FreshIf.no rfl) }) ?_
    refine RgAll.cons (by { (with_reducible refine RgL.mk (by rfl) ?_); intro v a w' hE hd hf; have d0 : (IsI 4 (xx * yy)) (v 2) w' := hd 2 (by kernel_rfl); have ev0 := hf.val 2 54 _ rfl (by kernel_rfl) (by kernel_rfl) (by kernel_rfl); clear hd hf; intro K hK; go_simp; go_at_call 32; go_split_ands; (with_reducible refine Calls.mono (Low_t d0 HPR.out.1 HPR.out.2) ?_); rintro e w2 ⟨x, rfl, e2, hx⟩; exact hK.out _ _ e2 hx (FreshIf.no rfl) }) ?_
    refine RgAll.cons (by { (with_reducible refine RgL.mk (by rfl) ?_); intro v a w' hE hd hf; have d0 : (IsT2 (IsV (.int .i64 (xx * yy))) (IsV (.bool true))) (v 3) w' := hd 3 (by kernel_rfl); have ev0 := hf.val 3 55 _ rfl (by kernel_rfl) (by kernel_rfl) (by kernel_rfl); clear hd hf; intro K hK; go_simp; exact hK.out _ _ (Ext.refl _) d0 (FreshIf.no rfl) }) ?_
    refine RgAll.cons (by { (with_reducible refine RgL.mk (by rfl) ?_); intro v a w' hE hd hf; have d0 : (IsT2 (IsV (.int .i64 (xx * yy))) (IsV (.bool true))) (v 4) w' := hd 4 (by kernel_rfl); obtain ⟨x0, x1, z0, y0, y1⟩ := d0; have ev0 := hf.val 4 51 _ z0 (by kernel_rfl) (by kernel_rfl) (by kernel_rfl); clear z0; clear hd hf; intro K hK; go_simp; exact hK.out _ _ (Ext.refl _) y0 (FreshIf.no rfl) }) ?_
    refine RgAll.cons (by { (with_reducible refine RgL.mk (by rfl) ?_); intro v a w' hE hd hf; have d0 : (IsT2 (IsV (.int .i64 (xx * yy))) (IsV (.bool true))) (v 4) w' := hd 4 (by kernel_rfl); obtain ⟨x0, x1, z0, y0, y1⟩ := d0; have ev0 := hf.val 4 51 _ z0 (by kernel_rfl) (by kernel_rfl) (by kernel_rfl); clear z0; clear hd hf; intro K hK; go_simp; exact hK.out _ _ (Ext.refl _) y1 (FreshIf.no rfl) }) ?_
    refine RgAll.cons (by { (with_reducible refine RgL.mk (by rfl) ?_); intro v a w' hE hd hf; have d0 : v 5 = .int .i64 (xx * yy) := hd 5 (by kernel_rfl); have ev0 := hf.val 5 56 _ d0 (by kernel_rfl) (by kernel_rfl) (by kernel_rfl); clear d0; clear hd hf; intro K hK; go_simp; exact hK.out _ _ (Ext.refl _) rfl (FreshIf.no rfl) }) ?_
    refine RgAll.cons (by { (with_reducible refine RgL.mk (by rfl) ?_); intro v a w' hE hd hf; have d0 : v 6 = .bool true := hd 6 (by kernel_rfl); have ev0 := hf.val 6 57 _ d0 (by kernel_rfl) (by kernel_rfl) (by kernel_rfl); clear d0; clear hd hf; intro K hK; go_simp; exact hK.out _ _ (Ext.refl _) rfl (FreshIf.no rfl) }) ?_
    exact RgAll.nil
  intro v W9 e1 hΦ _
  replace S := S.mono e1
  have v7 : v 7 = .int .i64 (xx * yy) := hΦ 7 (by decide)
  have v8 : v 8 = .bool true := hΦ 8 (by decide)
  simp only [layL, Act.put, List.setIfInBounds_toArray, List.set_cons_zero, List.set_cons_succ, Nat.reduceAdd]
  rw [v7, v8]
  clear v7 v8
  clear hΦ
  clear e1
  refine wpList_nil ?_
  go_upto_region 10 with (fail)
  refine wp_region_rgs 40 (some 58 :: some 59 :: some 60 :: some 61 :: some 62 :: some 63 :: some 64 :: some 65 :: some 66 :: some 67 :: some 68 :: some 69 :: some 70 :: some 71 :: some 72 :: some 73 :: some 74 :: some 75 :: some 76 :: some 77 :: some 78 :: some 79 :: some 80 :: some 81 :: some 82 :: some 83 :: some 84 :: some 85 :: some 86 :: some 87 :: some 88 :: some 89 :: some 90 :: some 91 :: some 92 :: some 93 :: some 94 :: some 95 :: some 96 :: some 97 :: []) (IsV (.bool true) :: IsV (.bool false) :: IsV (.bool false) :: IsV (.bool true) :: IsV (.bool false) :: IsV (.bool false) :: IsV (.bool false) :: IsV (.int .i64 (xx + yy)) :: IsV (.int .i64 xx) :: IsV (.int .i64 yy) :: IsV (.int .i64 (xx + yy)) :: IsV (.bool false) :: IsV (.bool false) :: IsV (.bool false) :: IsV (.int .i64 (xx * yy)) :: IsV (.int .i64 xx) :: IsV (.int .i64 yy) :: IsV (.int .i64 (xx * yy)) :: IsV (.bool false) :: IsV (.bool false) :: IsV (.bool false) :: IsI 2 xx :: IsI 2 yy :: IsV (.int .i64 cc) :: IsV (.bool b1) :: IsV (.int .i64 xx) :: IsV (.int .i64 yy) :: IsV (.bool b1) :: IsV (.bool false) :: IsV (.bool false) :: IsV (.bool false) :: IsI 2 xx :: IsI 2 yy :: IsV (.int .i64 cc) :: IsV (.bool b2) :: IsV (.int .i64 xx) :: IsV (.int .i64 yy) :: IsV (.bool b2) :: IsV (.bool false) :: IsV (.bool false) :: []) [] (by decide) (by kernel_rfl) (by kernel_rfl) (by kernel_rfl) ?_ ?_ ?_ ?_
  · repeat' (first | exact trivial | exact IsV.stb _ | exact IsW.stb _ | exact IsWk.stb _ _ | exact IsI.stb _ _ | exact IsB.stb _ | exact IsR.stb _ _ | exact IsMag.stb _ _ | exact IsPos.stb | apply IsT3.stb | apply IsT2.stb | apply And.intro)
  · exact (fun _ h => by cases h)
  · refine RgAll.cons (by { (with_reducible refine RgL.mk (by rfl) ?_); intro v a w' hE hd hf; have ev0 := hf.lit 13 (.bool true) (by kernel_rfl) (by kernel_rfl); clear hd hf; intro K hK; go_simp; exact hK.out _ _ (Ext.refl _) rfl (FreshIf.no rfl) }) ?_
    refine RgAll.cons (by { (with_reducible refine RgL.mk (by rfl) ?_); intro v a w' hE hd hf; have d0 : v 0 = .bool true := hd 0 (by kernel_rfl); have ev0 := hf.val 0 58 _ d0 (by kernel_rfl) (by kernel_rfl) (by kernel_rfl); clear d0; clear hd hf; intro K hK; go_simp; exact hK.out _ _ (Ext.refl _) rfl (FreshIf.no rfl) }) ?_
    refine RgAll.cons (by { (with_reducible refine RgL.mk (by rfl) ?_); intro v a w' hE hd hf; have d0 : v 1 = .bool false := hd 1 (by kernel_rfl); have ev0 := hf.val 1 59 _ d0 (by kernel_rfl) (by kernel_rfl) (by kernel_rfl); clear d0; clear hd hf; intro K hK; go_simp; exact hK.out _ _ (Ext.refl _) rfl (FreshIf.no rfl) }) ?_
    refine RgAll.cons (by { (with_reducible refine RgL.mkG 2 60 false (by rfl) (by kernel_rfl) (by kernel_rfl) (by kernel_rfl) (by kernel_rfl) (by kernel_rfl) ?_ ?_); (focus (intro _ _ h; exact h)); intro v a w' hE hd hf; have ev0 := hf.lit 15 (.bool true) (by kernel_rfl) (by kernel_rfl); clear hd hf; intro K hK; go_simp; exact hK.out _ _ (Ext.refl _) rfl (FreshIf.no rfl) }) ?_
    refine RgAll.cons (by { (with_reducible refine RgL.mkG 2 60 false (by rfl) (by kernel_rfl) (by kernel_rfl) (by kernel_rfl) (by kernel_rfl) (by kernel_rfl) ?_ ?_); (focus (intro _ _ h; exact h)); intro v a w' hE hd hf; have d0 : v 3 = .bool true := hd 3 (by kernel_rfl); have ev0 := hf.val 3 61 _ d0 (by kernel_rfl) (by kernel_rfl) (by kernel_rfl); clear d0; clear hd hf; intro K hK; go_simp; exact hK.out _ _ (Ext.refl _) rfl (FreshIf.no rfl) }) ?_
    refine RgAll.cons (by { (with_reducible refine RgL.mk (by rfl) ?_); intro v a w' hE hd hf; have d0 : v 2 = .bool false := hd 2 (by kernel_rfl); have ev0 := hf.val 2 60 _ d0 (by kernel_rfl) (by kernel_rfl) (by kernel_rfl); clear d0; have d1 : v 4 = .bool false := hd 4 (by kernel_rfl); have ev1 := hf.val 4 62 _ d1 (by kernel_rfl) (by kernel_rfl) (by kernel_rfl); clear d1; clear hd hf; intro K hK; go_simp; exact hK.out _ _ (Ext.refl _) rfl (FreshIf.no rfl) }) ?_
    refine RgAll.cons (by { (with_reducible refine RgL.mk (by rfl) ?_); intro v a w' hE hd hf; have d0 : v 5 = .bool false := hd 5 (by kernel_rfl); have ev0 := hf.val 5 63 _ d0 (by kernel_rfl) (by kernel_rfl) (by kernel_rfl); clear d0; clear hd hf; intro K hK; go_simp; exact hK.out _ _ (Ext.refl _) rfl (FreshIf.no rfl) }) ?_
    refine RgAll.cons (by { (with_reducible refine RgL.mkG 6 64 false (by rfl) (by kernel_rfl) (by kernel_rfl) (by kernel_rfl) (by kernel_rfl) (by kernel_rfl) ?_ ?_); (focus (intro _ _ h; exact h)); intro v a w' hE hd hf; have ev0 := hf.lit 12 (.int .i64 (xx + yy)) (by kernel_rfl) (by kernel_rfl); clear hd hf; intro K hK; go_simp; exact hK.out _ _ (Ext.refl _) rfl (FreshIf.no rfl) }) ?_
    refine RgAll.cons (by { (with_reducible refine RgL.mkG 6 64 false (by rfl) (by kernel_rfl) (by kernel_rfl) (by kernel_rfl) (by kernel_rfl) (by kernel_rfl) ?_ ?_); (focus (intro _ _ h; exact h)); intro v a w' hE hd hf; have ev0 := hf.lit 8 (.int .i64 xx) (by kernel_rfl) (by kernel_rfl); clear hd hf; intro K hK; go_simp; exact hK.out _ _ (Ext.refl _) rfl (FreshIf.no rfl) }) ?_
    refine RgAll.cons (by { (with_reducible refine RgL.mkG 6 64 false (by rfl) (by kernel_rfl) (by kernel_rfl) (by kernel_rfl) (by kernel_rfl) (by kernel_rfl) ?_ ?_); (focus (intro _ _ h; exact h)); intro v a w' hE hd hf; have ev0 := hf.lit 9 (.int .i64 yy) (by kernel_rfl) (by kernel_rfl); clear hd hf; intro K hK; go_simp; exact hK.out _ _ (Ext.refl _) rfl (FreshIf.no rfl) }) ?_
    refine RgAll.cons (by { (with_reducible refine RgL.mkG 6 64 false (by rfl) (by kernel_rfl) (by kernel_rfl) (by kernel_rfl) (by kernel_rfl) (by kernel_rfl) ?_ ?_); (focus (intro _ _ h; exact h)); intro v a w' hE hd hf; have d0 : v 8 = .int .i64 xx := hd 8 (by kernel_rfl); have ev0 := hf.val 8 66 _ d0 (by kernel_rfl) (by kernel_rfl) (by kernel_rfl); clear d0; have d1 : v 9 = .int .i64 yy := hd 9 (by kernel_rfl); have ev1 := hf.val 9 67 _ d1 (by kernel_rfl) (by kernel_rfl) (by kernel_rfl); clear d1; have hx9 := HWS.out; clear hd hf; intro K hK; go_simp; exact hK.out _ _ (Ext.refl _) rfl (FreshIf.no rfl) }) ?_
    refine RgAll.cons (by { (with_reducible refine RgL.mkG 6 64 false (by rfl) (by kernel_rfl) (by kernel_rfl) (by kernel_rfl) (by kernel_rfl) (by kernel_rfl) ?_ ?_); (focus (intro _ _ h; exact h)); intro v a w' hE hd hf; have d0 : v 7 = .int .i64 (xx + yy) := hd 7 (by kernel_rfl); have ev0 := hf.val 7 65 _ d0 (by kernel_rfl) (by kernel_rfl) (by kernel_rfl); clear d0; have d1 : v 10 = .int .i64 (xx + yy) := hd 10 (by kernel_rfl); have ev1 := hf.val 10 68 _ d1 (by kernel_rfl) (by kernel_rfl) (by kernel_rfl); clear d1; clear hd hf; intro K hK; go_simp; exact hK.out _ _ (Ext.refl _) rfl (FreshIf.no rfl) }) ?_
    refine RgAll.cons (by { (with_reducible refine RgL.mk (by rfl) ?_); intro v a w' hE hd hf; have d0 : v 6 = .bool false := hd 6 (by kernel_rfl); have ev0 := hf.val 6 64 _ d0 (by kernel_rfl) (by kernel_rfl) (by kernel_rfl); clear d0; have d1 : v 11 = .bool false := hd 11 (by kernel_rfl); have ev1 := hf.val 11 69 _ d1 (by kernel_rfl) (by kernel_rfl) (by kernel_rfl); clear d1; clear hd hf; intro K hK; go_simp; exact hK.out _ _ (Ext.refl _) rfl (FreshIf.no rfl) }) ?_
    refine RgAll.cons (by { (with_reducible refine RgL.mk (by rfl) ?_); intro v a w' hE hd hf; have d0 : v 12 = .bool false := hd 12 (by kernel_rfl); have ev0 := hf.val 12 70 _ d0 (by kernel_rfl) (by kernel_rfl) (by kernel_rfl); clear d0; clear hd hf; intro K hK; go_simp; exact hK.out _ _ (Ext.refl _) rfl (FreshIf.no rfl) }) ?_
    refine RgAll.cons (by { (with_reducible refine RgL.mkG 13 71 false (by rfl) (by kernel_rfl) (by kernel_rfl) (by kernel_rfl) (by kernel_rfl) (by kernel_rfl) ?_ ?_); (focus (intro _ _ h; exact h)); intro v a w' hE hd hf; have ev0 := hf.lit 14 (.int .i64 (xx * yy)) (by kernel_rfl) (by kernel_rfl); clear hd hf; intro K hK; go_simp; exact hK.out _ _ (Ext.refl _) rfl (FreshIf.no rfl) }) ?_
    refine RgAll.cons (by { (with_reducible refine RgL.mkG 13 71 false (by rfl) (by kernel_rfl) (by kernel_rfl) (by kernel_rfl) (by kernel_rfl) (by kernel_rfl) ?_ ?_); (focus (intro _ _ h; exact h)); intro v a w' hE hd hf; have ev0 := hf.lit 8 (.int .i64 xx) (by kernel_rfl) (by kernel_rfl); clear hd hf; intro K hK; go_simp; exact hK.out _ _ (Ext.refl _) rfl (FreshIf.no rfl) }) ?_
    refine RgAll.cons (by { (with_reducible refine RgL.mkG 13 71 false (by rfl) (by kernel_rfl) (by kernel_rfl) (by kernel_rfl) (by kernel_rfl) (by kernel_rfl) ?_ ?_); (focus (intro _ _ h; exact h)); intro v a w' hE hd hf; have ev0 := hf.lit 9 (.int .i64 yy) (by kernel_rfl) (by kernel_rfl); clear hd hf; intro K hK; go_simp; exact hK.out _ _ (Ext.refl _) rfl (FreshIf.no rfl) }) ?_
    refine RgAll.cons (by { (with_reducible refine RgL.mkG 13 71 false (by rfl) (by kernel_rfl) (by kernel_rfl) (by kernel_rfl) (by kernel_rfl) (by kernel_rfl) ?_ ?_); (focus (intro _ _ h; exact h)); intro v a w' hE hd hf; have d0 : v 15 = .int .i64 xx := hd 15 (by kernel_rfl); have ev0 := hf.val 15 73 _ d0 (by kernel_rfl) (by kernel_rfl) (by kernel_rfl); clear d0; have d1 : v 16 = .int .i64 yy := hd 16 (by kernel_rfl); have ev1 := hf.val 16 74 _ d1 (by kernel_rfl) (by kernel_rfl) (by kernel_rfl); clear d1; have hx9 := HWP.out; clear hd hf; intro K hK; go_simp; exact hK.out _ _ (Ext.refl _) rfl (FreshIf.no rfl) }) ?_
    refine RgAll.cons (by { (with_reducible refine RgL.mkG 13 71 false (by rfl) (by kernel_rfl) (by kernel_rfl) (by kernel_rfl) (by kernel_rfl) (by kernel_rfl) ?_ ?_); (focus (intro _ _ h; exact h)); intro v a w' hE hd hf; have d0 : v 14 = .int .i64 (xx * yy) := hd 14 (by kernel_rfl); have ev0 := hf.val 14 72 _ d0 (by kernel_rfl) (by kernel_rfl) (by kernel_rfl); clear d0; have d1 : v 17 = .int .i64 (xx * yy) := hd 17 (by kernel_rfl); have ev1 := hf.val 17 75 _ d1 (by kernel_rfl) (by kernel_rfl) (by kernel_rfl); clear d1; clear hd hf; intro K hK; go_simp; exact hK.out _ _ (Ext.refl _) rfl (FreshIf.no rfl) }) ?_
    refine RgAll.cons (by { (with_reducible refine RgL.mk (by rfl) ?_); intro v a w' hE hd hf; have d0 : v 13 = .bool false := hd 13 (by kernel_rfl); have ev0 := hf.val 13 71 _ d0 (by kernel_rfl) (by kernel_rfl) (by kernel_rfl); clear d0; have d1 : v 18 = .bool false := hd 18 (by kernel_rfl); have ev1 := hf.val 18 76 _ d1 (by kernel_rfl) (by kernel_rfl) (by kernel_rfl); clear d1; clear hd hf; intro K hK; go_simp; exact hK.out _ _ (Ext.refl _) rfl (FreshIf.no rfl) }) ?_
    refine RgAll.cons (by { (with_reducible refine RgL.mk (by rfl) ?_); intro v a w' hE hd hf; have d0 : v 19 = .bool false := hd 19 (by kernel_rfl); have ev0 := hf.val 19 77 _ d0 (by kernel_rfl) (by kernel_rfl) (by kernel_rfl); clear d0; clear hd hf; intro K hK; go_simp; exact hK.out _ _ (Ext.refl _) rfl (FreshIf.no rfl) }) ?_
    refine RgAll.cons (by { (with_reducible refine RgL.mkG 20 78 false (by rfl) (by kernel_rfl) (by kernel_rfl) (by kernel_rfl) (by kernel_rfl) (by kernel_rfl) ?_ ?_); (focus (intro _ _ h; exact h)); intro v a w' hE hd hf; have ev0 := hf.lit 10 (.pointer (some ⟨g10, 0, none⟩)) (by kernel_rfl) (by kernel_rfl); obtain ⟨s8, a8, n8, c8, b8, h8⟩ := (S.mono hE).at 1 (g10) (IsI 2 xx) rfl; have L0 := b8.c0; have L1 := b8.c1; clear hd hf; intro K hK; go_simp; exact hK.out _ _ (Ext.refl _) h8 (FreshIf.no rfl) }) ?_
    refine RgAll.cons (by { (with_reducible refine RgL.mkG 20 78 false (by rfl) (by kernel_rfl) (by kernel_rfl) (by kernel_rfl) (by kernel_rfl) (by kernel_rfl) ?_ ?_); (focus (intro _ _ h; exact h)); intro v a w' hE hd hf; have ev0 := hf.lit 11 (.pointer (some ⟨g11, 0, none⟩)) (by kernel_rfl) (by kernel_rfl); obtain ⟨s8, a8, n8, c8, b8, h8⟩ := (S.mono hE).at 0 (g11) (IsI 2 yy) rfl; have L0 := b8.c0; have L1 := b8.c1; clear hd hf; intro K hK; go_simp; exact hK.out _ _ (Ext.refl _) h8 (FreshIf.no rfl) }) ?_
    refine RgAll.cons (by { (with_reducible refine RgL.mkG 20 78 false (by rfl) (by kernel_rfl) (by kernel_rfl) (by kernel_rfl) (by kernel_rfl) (by kernel_rfl) ?_ ?_); (focus (intro _ _ h; exact h)); intro v a w' hE hd hf; have d0 : (IsI 2 xx) (v 21) w' := hd 21 (by kernel_rfl); have ev0 := hf.val 21 79 _ rfl (by kernel_rfl) (by kernel_rfl) (by kernel_rfl); have d1 : (IsI 2 yy) (v 22) w' := hd 22 (by kernel_rfl); have ev1 := hf.val 22 80 _ rfl (by kernel_rfl) (by kernel_rfl) (by kernel_rfl); clear hd hf; intro K hK; go_simp; go_at_call 16; go_split_ands; (with_reducible refine Calls.mono (Calls.mono (Cmp_f d0 d1 (by decide) (by decide)) fun _ _ h => h.int (HC.out)) ?_); rintro e w2 ⟨x, rfl, e2, hx⟩; exact hK.out _ _ e2 hx (FreshIf.no rfl) }) ?_
    refine RgAll.cons (by { (with_reducible refine RgL.mkG 20 78 false (by rfl) (by kernel_rfl) (by kernel_rfl) (by kernel_rfl) (by kernel_rfl) (by kernel_rfl) ?_ ?_); (focus (intro _ _ h; exact h)); intro v a w' hE hd hf; have d0 : v 23 = .int .i64 cc := hd 23 (by kernel_rfl); have ev0 := hf.val 23 81 _ d0 (by kernel_rfl) (by kernel_rfl) (by kernel_rfl); clear d0; have hx9 := HB.out.1; clear hd hf; intro K hK; go_simp; exact hK.out _ _ (Ext.refl _) rfl (FreshIf.no rfl) }) ?_
    refine RgAll.cons (by { (with_reducible refine RgL.mkG 20 78 false (by rfl) (by kernel_rfl) (by kernel_rfl) (by kernel_rfl) (by kernel_rfl) (by kernel_rfl) ?_ ?_); (focus (intro _ _ h; exact h)); intro v a w' hE hd hf; have ev0 := hf.lit 8 (.int .i64 xx) (by kernel_rfl) (by kernel_rfl); clear hd hf; intro K hK; go_simp; exact hK.out _ _ (Ext.refl _) rfl (FreshIf.no rfl) }) ?_
    refine RgAll.cons (by { (with_reducible refine RgL.mkG 20 78 false (by rfl) (by kernel_rfl) (by kernel_rfl) (by kernel_rfl) (by kernel_rfl) (by kernel_rfl) ?_ ?_); (focus (intro _ _ h; exact h)); intro v a w' hE hd hf; have ev0 := hf.lit 9 (.int .i64 yy) (by kernel_rfl) (by kernel_rfl); clear hd hf; intro K hK; go_simp; exact hK.out _ _ (Ext.refl _) rfl (FreshIf.no rfl) }) ?_
    refine RgAll.cons (by { (with_reducible refine RgL.mkG 20 78 false (by rfl) (by kernel_rfl) (by kernel_rfl) (by kernel_rfl) (by kernel_rfl) (by kernel_rfl) ?_ ?_); (focus (intro _ _ h; exact h)); intro v a w' hE hd hf; have d0 : v 25 = .int .i64 xx := hd 25 (by kernel_rfl); have ev0 := hf.val 25 83 _ d0 (by kernel_rfl) (by kernel_rfl) (by kernel_rfl); clear d0; have d1 : v 26 = .int .i64 yy := hd 26 (by kernel_rfl); have ev1 := hf.val 26 84 _ d1 (by kernel_rfl) (by kernel_rfl) (by kernel_rfl); clear d1; have hx9 := HB.out.2.1; clear hd hf; intro K hK; go_simp; exact hK.out _ _ (Ext.refl _) rfl (FreshIf.no rfl) }) ?_
    refine RgAll.cons (by { (with_reducible refine RgL.mkG 20 78 false (by rfl) (by kernel_rfl) (by kernel_rfl) (by kernel_rfl) (by kernel_rfl) (by kernel_rfl) ?_ ?_); (focus (intro _ _ h; exact h)); intro v a w' hE hd hf; have d0 : v 24 = .bool b1 := hd 24 (by kernel_rfl); have ev0 := hf.val 24 82 _ d0 (by kernel_rfl) (by kernel_rfl) (by kernel_rfl); clear d0; have d1 : v 27 = .bool b1 := hd 27 (by kernel_rfl); have ev1 := hf.val 27 85 _ d1 (by kernel_rfl) (by kernel_rfl) (by kernel_rfl); clear d1; clear hd hf; intro K hK; go_simp; exact hK.out _ _ (Ext.refl _) rfl (FreshIf.no rfl) }) ?_
    refine RgAll.cons (by { (with_reducible refine RgL.mk (by rfl) ?_); intro v a w' hE hd hf; have d0 : v 20 = .bool false := hd 20 (by kernel_rfl); have ev0 := hf.val 20 78 _ d0 (by kernel_rfl) (by kernel_rfl) (by kernel_rfl); clear d0; have d1 : v 28 = .bool false := hd 28 (by kernel_rfl); have ev1 := hf.val 28 86 _ d1 (by kernel_rfl) (by kernel_rfl) (by kernel_rfl); clear d1; clear hd hf; intro K hK; go_simp; exact hK.out _ _ (Ext.refl _) rfl (FreshIf.no rfl) }) ?_
    refine RgAll.cons (by { (with_reducible refine RgL.mk (by rfl) ?_); intro v a w' hE hd hf; have d0 : v 29 = .bool false := hd 29 (by kernel_rfl); have ev0 := hf.val 29 87 _ d0 (by kernel_rfl) (by kernel_rfl) (by kernel_rfl); clear d0; clear hd hf; intro K hK; go_simp; exact hK.out _ _ (Ext.refl _) rfl (FreshIf.no rfl) }) ?_
    refine RgAll.cons (by { (with_reducible refine RgL.mkG 30 88 false (by rfl) (by kernel_rfl) (by kernel_rfl) (by kernel_rfl) (by kernel_rfl) (by kernel_rfl) ?_ ?_); (focus (intro _ _ h; exact h)); intro v a w' hE hd hf; have ev0 := hf.lit 10 (.pointer (some ⟨g10, 0, none⟩)) (by kernel_rfl) (by kernel_rfl); obtain ⟨s8, a8, n8, c8, b8, h8⟩ := (S.mono hE).at 1 (g10) (IsI 2 xx) rfl; have L0 := b8.c0; have L1 := b8.c1; clear hd hf; intro K hK; go_simp; exact hK.out _ _ (Ext.refl _) h8 (FreshIf.no rfl) }) ?_
    refine RgAll.cons (by { (with_reducible refine RgL.mkG 30 88 false (by rfl) (by kernel_rfl) (by kernel_rfl) (by kernel_rfl) (by kernel_rfl) (by kernel_rfl) ?_ ?_); (focus (intro _ _ h; exact h)); intro v a w' hE hd hf; have ev0 := hf.lit 11 (.pointer (some ⟨g11, 0, none⟩)) (by kernel_rfl) (by kernel_rfl); obtain ⟨s8, a8, n8, c8, b8, h8⟩ := (S.mono hE).at 0 (g11) (IsI 2 yy) rfl; have L0 := b8.c0; have L1 := b8.c1; clear hd hf; intro K hK; go_simp; exact hK.out _ _ (Ext.refl _) h8 (FreshIf.no rfl) }) ?_
    refine RgAll.cons (by { (with_reducible refine RgL.mkG 30 88 false (by rfl) (by kernel_rfl) (by kernel_rfl) (by kernel_rfl) (by kernel_rfl) (by kernel_rfl) ?_ ?_); (focus (intro _ _ h; exact h)); intro v a w' hE hd hf; have d0 : (IsI 2 xx) (v 31) w' := hd 31 (by kernel_rfl); have ev0 := hf.val 31 89 _ rfl (by kernel_rfl) (by kernel_rfl) (by kernel_rfl); have d1 : (IsI 2 yy) (v 32) w' := hd 32 (by kernel_rfl); have ev1 := hf.val 32 90 _ rfl (by kernel_rfl) (by kernel_rfl) (by kernel_rfl); clear hd hf; intro K hK; go_simp; go_at_call 16; go_split_ands; (with_reducible refine Calls.mono (Calls.mono (Cmp_f d0 d1 (by decide) (by decide)) fun _ _ h => h.int (HC.out)) ?_); rintro e w2 ⟨x, rfl, e2, hx⟩; exact hK.out _ _ e2 hx (FreshIf.no rfl) }) ?_
    refine RgAll.cons (by { (with_reducible refine RgL.mkG 30 88 false (by rfl) (by kernel_rfl) (by kernel_rfl) (by kernel_rfl) (by kernel_rfl) (by kernel_rfl) ?_ ?_); (focus (intro _ _ h; exact h)); intro v a w' hE hd hf; have d0 : v 33 = .int .i64 cc := hd 33 (by kernel_rfl); have ev0 := hf.val 33 91 _ d0 (by kernel_rfl) (by kernel_rfl) (by kernel_rfl); clear d0; have hx9 := HB.out.2.2.1; clear hd hf; intro K hK; go_simp; exact hK.out _ _ (Ext.refl _) rfl (FreshIf.no rfl) }) ?_
    refine RgAll.cons (by { (with_reducible refine RgL.mkG 30 88 false (by rfl) (by kernel_rfl) (by kernel_rfl) (by kernel_rfl) (by kernel_rfl) (by kernel_rfl) ?_ ?_); (focus (intro _ _ h; exact h)); intro v a w' hE hd hf; have ev0 := hf.lit 8 (.int .i64 xx) (by kernel_rfl) (by kernel_rfl); clear hd hf; intro K hK; go_simp; exact hK.out _ _ (Ext.refl _) rfl (FreshIf.no rfl) }) ?_
    refine RgAll.cons (by { (with_reducible refine RgL.mkG 30 88 false (by rfl) (by kernel_rfl) (by kernel_rfl) (by kernel_rfl) (by kernel_rfl) (by kernel_rfl) ?_ ?_); (focus (intro _ _ h; exact h)); intro v a w' hE hd hf; have ev0 := hf.lit 9 (.int .i64 yy) (by kernel_rfl) (by kernel_rfl); clear hd hf; intro K hK; go_simp; exact hK.out _ _ (Ext.refl _) rfl (FreshIf.no rfl) }) ?_
    refine RgAll.cons (by { (with_reducible refine RgL.mkG 30 88 false (by rfl) (by kernel_rfl) (by kernel_rfl) (by kernel_rfl) (by kernel_rfl) (by kernel_rfl) ?_ ?_); (focus (intro _ _ h; exact h)); intro v a w' hE hd hf; have d0 : v 35 = .int .i64 xx := hd 35 (by kernel_rfl); have ev0 := hf.val 35 93 _ d0 (by kernel_rfl) (by kernel_rfl) (by kernel_rfl); clear d0; have d1 : v 36 = .int .i64 yy := hd 36 (by kernel_rfl); have ev1 := hf.val 36 94 _ d1 (by kernel_rfl) (by kernel_rfl) (by kernel_rfl); clear d1; have hx9 := HB.out.2.2.2; clear hd hf; intro K hK; go_simp; exact hK.out _ _ (Ext.refl _) rfl (FreshIf.no rfl) }) ?_
    refine RgAll.cons (by { (with_reducible refine RgL.mkG 30 88 false (by rfl) (by kernel_rfl) (by kernel_rfl) (by kernel_rfl) (by kernel_rfl) (by kernel_rfl) ?_ ?_); (focus (intro _ _ h; exact h)); intro v a w' hE hd hf; have d0 : v 34 = .bool b2 := hd 34 (by kernel_rfl); have ev0 := hf.val 34 92 _ d0 (by kernel_rfl) (by kernel_rfl) (by kernel_rfl); clear d0; have d1 : v 37 = .bool b2 := hd 37 (by kernel_rfl); have ev1 := hf.val 37 95 _ d1 (by kernel_rfl) (by kernel_rfl) (by kernel_rfl); clear d1; clear hd hf; intro K hK; go_simp; exact hK.out _ _ (Ext.refl _) rfl (FreshIf.no rfl) }) ?_
    refine RgAll.cons (by { (with_reducible refine RgL.mk (by rfl) ?_); intro v a w' hE hd hf; have d0 : v 30 = .bool false := hd 30 (by kernel_rfl); have ev0 := hf.val 30 88 _ d0 (by kernel_rfl) (by kernel_rfl) (by kernel_rfl); clear d0; have d1 : v 38 = .bool false := hd 38 (by kernel_rfl); have ev1 := hf.val 38 96 _ d1 (by kernel_rfl) (by kernel_rfl) (by kernel_rfl); clear d1; clear hd hf; intro K hK; go_simp; exact hK.out _ _ (Ext.refl _) rfl (FreshIf.no rfl) }) ?_
    exact RgAll.nil
  intro v W10 e1 hΦ _
  replace S := S.mono e1
  have v39 : v 39 = .bool false := hΦ 39 (by decide)
  simp only [layL, Act.put, List.setIfInBounds_toArray, List.set_cons_zero, List.set_cons_succ, Nat.reduceAdd]
  rw [v39]
  clear v39
  clear hΦ
  clear e1
  refine wpList_nil ?_
  go_upto_region 12 with (fail)
  have hl := hid S.lt; have hw := S.ext.size
  refine wp_region_rgs 9 [some 99, some 100, some 101, some 98, some 102, some 103, some 104, some 16, some 17] [IsI 2 xx, IsI 2 yy, IsT3 (IsI 0 0) (IsI 0 0) (IsV (.int .i64 4)), IsT3 (IsI 0 0) (IsI 0 0) (IsV (.int .i64 4)), IsI 0 0, IsI 0 0, IsV (.int .i64 4), IsB W10, IsB W10] [7, 8] (by decide) (by kernel_rfl) (by kernel_rfl) (by kernel_rfl) ?_ ?_ ?_ ?_
  · repeat' (first | exact trivial | exact IsV.stb _ | exact IsW.stb _ | exact IsWk.stb _ _ | exact IsI.stb _ _ | exact IsB.stb _ | exact IsR.stb _ _ | exact IsMag.stb _ _ | exact IsPos.stb | apply IsT3.stb | apply IsT2.stb | apply And.intro)
  · intro i hi; simp only [List.mem_cons, List.not_mem_nil, or_false] at hi; rcases hi with rfl | rfl <;> exact IsB.box _
  · refine RgAll.cons (by { (with_reducible refine RgL.mk (by rfl) ?_); intro v a w' hE hd hf; have ev0 := hf.lit 10 (.pointer (some ⟨g10, 0, none⟩)) (by kernel_rfl) (by kernel_rfl); obtain ⟨s8, a8, n8, c8, b8, h8⟩ := (S.mono hE).at 1 (g10) (IsI 2 xx) rfl; have L0 := b8.c0; have L1 := b8.c1; clear hd hf; intro K hK; go_simp; exact hK.out _ _ (Ext.refl _) h8 (FreshIf.no rfl) }) ?_
    refine RgAll.cons (by { (with_reducible refine RgL.mk (by rfl) ?_); intro v a w' hE hd hf; have ev0 := hf.lit 11 (.pointer (some ⟨g11, 0, none⟩)) (by kernel_rfl) (by kernel_rfl); obtain ⟨s8, a8, n8, c8, b8, h8⟩ := (S.mono hE).at 0 (g11) (IsI 2 yy) rfl; have L0 := b8.c0; have L1 := b8.c1; clear hd hf; intro K hK; go_simp; exact hK.out _ _ (Ext.refl _) h8 (FreshIf.no rfl) }) ?_
    refine RgAll.cons (by { (with_reducible refine RgL.mk (by rfl) ?_); intro v a w' hE hd hf; have d0 : (IsI 2 xx) (v 0) w' := hd 0 (by kernel_rfl); have ev0 := hf.val 0 99 _ rfl (by kernel_rfl) (by kernel_rfl) (by kernel_rfl); have d1 : (IsI 2 yy) (v 1) w' := hd 1 (by kernel_rfl); have ev1 := hf.val 1 100 _ rfl (by kernel_rfl) (by kernel_rfl) (by kernel_rfl); clear hd hf; intro K hK; go_simp; go_at_call 11; go_split_ands; (with_reducible refine Calls.mono (DivMod0_f d0 (by have hz := HZ.out; rw [hz] at d1; exact d1)) ?_); rintro e w2 ⟨x, rfl, e2, hx⟩; exact hK.out _ _ e2 hx (FreshIf.no rfl) }) ?_
    refine RgAll.cons (by { (with_reducible refine RgL.mk (by rfl) ?_); intro v a w' hE hd hf; have d0 : (IsT3 (IsI 0 0) (IsI 0 0) (IsV (.int .i64 4))) (v 2) w' := hd 2 (by kernel_rfl); have ev0 := hf.val 2 101 _ rfl (by kernel_rfl) (by kernel_rfl) (by kernel_rfl); clear hd hf; intro K hK; go_simp; exact hK.out _ _ (Ext.refl _) d0 (FreshIf.no rfl) }) ?_
    refine RgAll.cons (by { (with_reducible refine RgL.mk (by rfl) ?_); intro v a w' hE hd hf; have d0 : (IsT3 (IsI 0 0) (IsI 0 0) (IsV (.int .i64 4))) (v 3) w' := hd 3 (by kernel_rfl); obtain ⟨x0, x1, x2, z0, y0, y1, y2⟩ := d0; have ev0 := hf.val 3 98 _ z0 (by kernel_rfl) (by kernel_rfl) (by kernel_rfl); clear z0; clear hd hf; intro K hK; go_simp; exact hK.out _ _ (Ext.refl _) y0 (FreshIf.no rfl) }) ?_
    refine RgAll.cons (by { (with_reducible refine RgL.mk (by rfl) ?_); intro v a w' hE hd hf; have d0 : (IsT3 (IsI 0 0) (IsI 0 0) (IsV (.int .i64 4))) (v 3) w' := hd 3 (by kernel_rfl); obtain ⟨x0, x1, x2, z0, y0, y1, y2⟩ := d0; have ev0 := hf.val 3 98 _ z0 (by kernel_rfl) (by kernel_rfl) (by kernel_rfl); clear z0; clear hd hf; intro K hK; go_simp; exact hK.out _ _ (Ext.refl _) y1 (FreshIf.no rfl) }) ?_
    refine RgAll.cons (by { (with_reducible refine RgL.mk (by rfl) ?_); intro v a w' hE hd hf; have d0 : (IsT3 (IsI 0 0) (IsI 0 0) (IsV (.int .i64 4))) (v 3) w' := hd 3 (by kernel_rfl); obtain ⟨x0, x1, x2, z0, y0, y1, y2⟩ := d0; have ev0 := hf.val 3 98 _ z0 (by kernel_rfl) (by kernel_rfl) (by kernel_rfl); clear z0; clear hd hf; intro K hK; go_simp; exact hK.out _ _ (Ext.refl _) y2 (FreshIf.no rfl) }) ?_
    refine RgAll.cons (by { (with_reducible refine RgL.mk (by rfl) ?_); intro v a w' hE hd hf; skip; clear hd hf; intro K hK; go_simp; refine hK.out _ _ ((Ext.refl _).alloc _) ⟨_, rfl, hE.size, Bx.new _ _ _ _ _⟩ FreshIf.yes }) ?_
    refine RgAll.cons (by { (with_reducible refine RgL.mk (by rfl) ?_); intro v a w' hE hd hf; skip; clear hd hf; intro K hK; go_simp; refine hK.out _ _ ((Ext.refl _).alloc _) ⟨_, rfl, hE.size, Bx.new _ _ _ _ _⟩ FreshIf.yes }) ?_
    exact RgAll.nil
  intro v W11 e1 hΦ hne
  replace S := S.mono e1
  obtain ⟨s102, a102, n102, c102, v4, h102⟩ := (hΦ 4 (by decide) : IsI 0 0 (v 4) W11)
  obtain ⟨s103, a103, n103, c103, v5, h103⟩ := (hΦ 5 (by decide) : IsI 0 0 (v 5) W11)
  have v6 : v 6 = .int .i64 4 := hΦ 6 (by decide)
  obtain ⟨g16, v7, q6, b5⟩ := (hΦ 7 (by decide) : IsB W10 (v 7) W11)
  replace S := S.addN (Apart.old hl.out q6) (Nat.le_trans hw q6) b5
  clear b5
  obtain ⟨g17, v8, q8, b7⟩ := (hΦ 8 (by decide) : IsB W10 (v 8) W11)
  replace S := S.addN (Apart.cons (fun h => hne 7 8 (by decide) (by decide) (by decide) (by decide) (by decide) (by rw [v7, v8, h])) (Apart.old hl.out q8)) (Nat.le_trans hw q8) b7
  clear b7
  clear hne
  simp only [layL, Act.put, List.setIfInBounds_toArray, List.set_cons_zero, List.set_cons_succ, Nat.reduceAdd]
  rw [v4, v5, v6, v7, v8]
  clear v4 v5 v6 v7 v8
  clear hΦ
  clear hl hw
  clear e1
  obtain ⟨s8, a8, n8, c8, b8, _⟩ := S.at 1 (g16) (IsI 0 0) rfl; have F1 := b8.c0; have F2 := b8.c1; have F3 := b8.f0; have F4 := b8.f1
  refine wpList_step fun K hK => ?_; go_simp; refine hK _ _ ?_; clear hK K
  clear F1 F2 F3 F4 b8
  obtain ⟨W12, hW, S2, G2, _⟩ := S.put 1 (g16) (IsI 0 0) (IsI 0 0) rfl s102 a102 n102 c102 (IsI.gstb _ _) ⟨_, _, _, _, rfl, h102⟩
  rw [← hW]; clear hW S
  replace h103 := h103.gr G2
  have S : St w W12 [(g17, IsI 0 0), (g16, IsI 0 0), (g11, IsI 2 yy), (g10, IsI 2 xx), (w.heap.size, IsR s3 x3)] := S2; clear S2 G2
  clear h102
  obtain ⟨s8, a8, n8, c8, b8, _⟩ := S.at 0 (g17) (IsI 0 0) rfl; have F1 := b8.c0; have F2 := b8.c1; have F3 := b8.f0; have F4 := b8.f1
  refine wpList_step fun K hK => ?_; go_simp; refine hK _ _ ?_; clear hK K
  clear F1 F2 F3 F4 b8
  obtain ⟨W13, hW, S2, G2, _⟩ := S.put 0 (g17) (IsI 0 0) (IsI 0 0) rfl s103 a103 n103 c103 (IsI.gstb _ _) ⟨_, _, _, _, rfl, h103⟩
  rw [← hW]; clear hW S
  have S : St w W13 [(g17, IsI 0 0), (g16, IsI 0 0), (g11, IsI 2 yy), (g10, IsI 2 xx), (w.heap.size, IsR s3 x3)] := S2; clear S2 G2
  clear h103
  refine wpList_step fun K hK => ?_; go_simp; refine hK _ _ ?_; clear hK K
  refine wpList_nil ?_
  go_upto_region 13 with (fail)
  refine wp_region_rgs 2 [some 105, some 106] [IsV (.int .i64 yy), IsV (.bool false)] [] (by decide) (by kernel_rfl) (by kernel_rfl) (by kernel_rfl) ?_ ?_ ?_ ?_
  · repeat' (first | exact trivial | exact IsV.stb _ | exact IsW.stb _ | exact IsWk.stb _ _ | exact IsI.stb _ _ | exact IsB.stb _ | exact IsR.stb _ _ | exact IsMag.stb _ _ | exact IsPos.stb | apply IsT3.stb | apply IsT2.stb | apply And.intro)
  · exact (fun _ h => by cases h)
  · refine RgAll.cons (by { (with_reducible refine RgL.mk (by rfl) ?_); intro v a w' hE hd hf; have ev0 := hf.lit 9 (.int .i64 yy) (by kernel_rfl) (by kernel_rfl); clear hd hf; intro K hK; go_simp; exact hK.out _ _ (Ext.refl _) rfl (FreshIf.no rfl) }) ?_
    refine RgAll.cons (by { (with_reducible refine RgL.mk (by rfl) ?_); intro v a w' hE hd hf; have d0 : v 0 = .int .i64 yy := hd 0 (by kernel_rfl); have ev0 := hf.val 0 105 _ d0 (by kernel_rfl) (by kernel_rfl) (by kernel_rfl); clear d0; have hx9 := HZB.out; clear hd hf; intro K hK; go_simp; exact hK.out _ _ (Ext.refl _) rfl (FreshIf.no rfl) }) ?_
    exact RgAll.nil
  intro v W14 e1 hΦ _
  replace S := S.mono e1
  have v1 : v 1 = .bool false := hΦ 1 (by decide)
  simp only [layL, Act.put, List.setIfInBounds_toArray, List.set_cons_zero, List.set_cons_succ, Nat.reduceAdd]
  rw [v1]
  clear v1
  clear hΦ
  clear e1
  refine wpList_nil ?_
  go_upto_region 18 with (fail)
  have hl := hid S.lt; have hw := S.ext.size
  refine wp_region_rgs 2 [some 148, some 23] [IsI 2 9223372036854775807, IsB W14] [1] (by decide) (by kernel_rfl) (by kernel_rfl) (by kernel_rfl) ?_ ?_ ?_ ?_
  · repeat' (first | exact trivial | exact IsV.stb _ | exact IsW.stb _ | exact IsWk.stb _ _ | exact IsI.stb _ _ | exact IsB.stb _ | exact IsR.stb _ _ | exact IsMag.stb _ _ | exact IsPos.stb | apply IsT3.stb | apply IsT2.stb | apply And.intro)
  · intro i hi; simp only [List.mem_cons, List.not_mem_nil, or_false] at hi; subst hi; exact IsB.box _
  · refine RgAll.cons (by { (with_reducible refine RgL.mk (by rfl) ?_); intro v a w' hE hd hf; skip; clear hd hf; intro K hK; go_simp; go_at_call 23; go_split_ands; (with_reducible refine Calls.mono (Of_f _ 9223372036854775807 (by decide) (by decide)) ?_); rintro e w2 ⟨x, rfl, e2, hx⟩; exact hK.out _ _ e2 hx (FreshIf.no rfl) }) ?_
    refine RgAll.cons (by { (with_reducible refine RgL.mk (by rfl) ?_); intro v a w' hE hd hf; skip; clear hd hf; intro K hK; go_simp; refine hK.out _ _ ((Ext.refl _).alloc _) ⟨_, rfl, hE.size, Bx.new _ _ _ _ _⟩ FreshIf.yes }) ?_
    exact RgAll.nil
  intro v W15 e1 hΦ _
  replace S := S.mono e1
  obtain ⟨s148, a148, n148, c148, v0, h148⟩ := (hΦ 0 (by decide) : IsI 2 9223372036854775807 (v 0) W15)
  obtain ⟨g23, v1, q10, b9⟩ := (hΦ 1 (by decide) : IsB W14 (v 1) W15)
  replace S := S.addN (Apart.old hl.out q10) (Nat.le_trans hw q10) b9
  clear b9
  simp only [layL, Act.put, List.setIfInBounds_toArray, List.set_cons_zero, List.set_cons_succ, Nat.reduceAdd]
  rw [v0, v1]
  clear v0 v1
  clear hΦ
  clear hl hw
  clear e1
  obtain ⟨s8, a8, n8, c8, b8, _⟩ := S.at 0 (g23) (IsI 0 0) rfl; have F1 := b8.c0; have F2 := b8.c1; have F3 := b8.f0; have F4 := b8.f1
  refine wpList_step fun K hK => ?_; go_simp; refine hK _ _ ?_; clear hK K
  clear F1 F2 F3 F4 b8
  obtain ⟨W16, hW, S2, G2, _⟩ := S.put 0 (g23) (IsI 0 0) (IsI 2 9223372036854775807) rfl s148 a148 n148 c148 (IsI.gstb _ _) ⟨_, _, _, _, rfl, h148⟩
  rw [← hW]; clear hW S
  have S : St w W16 [(g23, IsI 2 9223372036854775807), (g17, IsI 0 0), (g16, IsI 0 0), (g11, IsI 2 yy), (g10, IsI 2 xx), (w.heap.size, IsR s3 x3)] := S2; clear S2 G2
  clear h148
  refine wpList_nil ?_
  go_upto_region 19 with (fail)
  have hl := hid S.lt; have hw := S.ext.size
  refine wp_region_rgs 2 [some 149, some 24] [IsI 2 ((-9223372036854775808)), IsB W16] [1] (by decide) (by kernel_rfl) (by kernel_rfl) (by kernel_rfl) ?_ ?_ ?_ ?_
  · repeat' (first | exact trivial | exact IsV.stb _ | exact IsW.stb _ | exact IsWk.stb _ _ | exact IsI.stb _ _ | exact IsB.stb _ | exact IsR.stb _ _ | exact IsMag.stb _ _ | exact IsPos.stb | apply IsT3.stb | apply IsT2.stb | apply And.intro)
  · intro i hi; simp only [List.mem_cons, List.not_mem_nil, or_false] at hi; subst hi; exact IsB.box _
  · refine RgAll.cons (by { (with_reducible refine RgL.mk (by rfl) ?_); intro v a w' hE hd hf; skip; clear hd hf; intro K hK; go_simp; go_at_call 23; go_split_ands; (with_reducible refine Calls.mono (Of_f _ ((-9223372036854775808)) (by decide) (by decide)) ?_); rintro e w2 ⟨x, rfl, e2, hx⟩; exact hK.out _ _ e2 hx (FreshIf.no rfl) }) ?_
    refine RgAll.cons (by { (with_reducible refine RgL.mk (by rfl) ?_); intro v a w' hE hd hf; skip; clear hd hf; intro K hK; go_simp; refine hK.out _ _ ((Ext.refl _).alloc _) ⟨_, rfl, hE.size, Bx.new _ _ _ _ _⟩ FreshIf.yes }) ?_
    exact RgAll.nil
  intro v W17 e1 hΦ _
  replace S := S.mono e1
  obtain ⟨s149, a149, n149, c149, v0, h149⟩ := (hΦ 0 (by decide) : IsI 2 ((-9223372036854775808)) (v 0) W17)
  obtain ⟨g24, v1, q12, b11⟩ := (hΦ 1 (by decide) : IsB W16 (v 1) W17)
  replace S := S.addN (Apart.old hl.out q12) (Nat.le_trans hw q12) b11
  clear b11
  simp only [layL, Act.put, List.setIfInBounds_toArray, List.set_cons_zero, List.set_cons_succ, Nat.reduceAdd]
  rw [v0, v1]
  clear v0 v1
  clear hΦ
  clear hl hw
  clear e1
  obtain ⟨s8, a8, n8, c8, b8, _⟩ := S.at 0 (g24) (IsI 0 0) rfl; have F1 := b8.c0; have F2 := b8.c1; have F3 := b8.f0; have F4 := b8.f1
  refine wpList_step fun K hK => ?_; go_simp; refine hK _ _ ?_; clear hK K
  clear F1 F2 F3 F4 b8
  obtain ⟨W18, hW, S2, G2, _⟩ := S.put 0 (g24) (IsI 0 0) (IsI 2 ((-9223372036854775808))) rfl s149 a149 n149 c149 (IsI.gstb _ _) ⟨_, _, _, _, rfl, h149⟩
  rw [← hW]; clear hW S
  have S : St w W18 [(g24, IsI 2 ((-9223372036854775808))), (g23, IsI 2 9223372036854775807), (g17, IsI 0 0), (g16, IsI 0 0), (g11, IsI 2 yy), (g10, IsI 2 xx), (w.heap.size, IsR s3 x3)] := S2; clear S2 G2
  clear h149
  refine wpList_nil ?_
  go_upto_region 20 with (fail)
  refine wp_region_rgs 7 [some 151, some 152, some 150, some 153, some 154, some 25, some 26] [IsI 2 9223372036854775807, IsT2 (IsV (.int .i64 9223372036854775807)) (IsV (.bool true)), IsT2 (IsV (.int .i64 9223372036854775807)) (IsV (.bool true)), IsV (.int .i64 9223372036854775807), IsV (.bool true), IsV (.int .i64 9223372036854775807), IsV (.bool true)] [] (by decide) (by kernel_rfl) (by kernel_rfl) (by kernel_rfl) ?_ ?_ ?_ ?_
  · repeat' (first | exact trivial | exact IsV.stb _ | exact IsW.stb _ | exact IsWk.stb _ _ | exact IsI.stb _ _ | exact IsB.stb _ | exact IsR.stb _ _ | exact IsMag.stb _ _ | exact IsPos.stb | apply IsT3.stb | apply IsT2.stb | apply And.intro)
  · exact (fun _ h => by cases h)
  · refine RgAll.cons (by { (with_reducible refine RgL.mk (by rfl) ?_); intro v a w' hE hd hf; have ev0 := hf.lit 23 (.pointer (some ⟨g23, 0, none⟩)) (by kernel_rfl) (by kernel_rfl); obtain ⟨s8, a8, n8, c8, b8, h8⟩ := (S.mono hE).at 1 (g23) (IsI 2 9223372036854775807) rfl; have L0 := b8.c0; have L1 := b8.c1; clear hd hf; intro K hK; go_simp; exact hK.out _ _ (Ext.refl _) h8 (FreshIf.no rfl) }) ?_
    refine RgAll.cons (by { (with_reducible refine RgL.mk (by rfl) ?_); intro v a w' hE hd hf; have d0 : (IsI 2 9223372036854775807) (v 0) w' := hd 0 (by kernel_rfl); have ev0 := hf.val 0 151 _ rfl (by kernel_rfl) (by kernel_rfl) (by kernel_rfl); clear hd hf; intro K hK; go_simp; go_at_call 32; go_split_ands; (with_reducible refine Calls.mono (Low_t d0 (by decide) (by decide)) ?_); rintro e w2 ⟨x, rfl, e2, hx⟩; exact hK.out _ _ e2 hx (FreshIf.no rfl) }) ?_
    refine RgAll.cons (by { (with_reducible refine RgL.mk (by rfl) ?_); intro v a w' hE hd hf; have d0 : (IsT2 (IsV (.int .i64 9223372036854775807)) (IsV (.bool true))) (v 1) w' := hd 1 (by kernel_rfl); have ev0 := hf.val 1 152 _ rfl (by kernel_rfl) (by kernel_rfl) (by kernel_rfl); clear hd hf; intro K hK; go_simp; exact hK.out _ _ (Ext.refl _) d0 (FreshIf.no rfl) }) ?_
    refine RgAll.cons (by { (with_reducible refine RgL.mk (by rfl) ?_); intro v a w' hE hd hf; have d0 : (IsT2 (IsV (.int .i64 9223372036854775807)) (IsV (.bool true))) (v 2) w' := hd 2 (by kernel_rfl); obtain ⟨x0, x1, z0, y0, y1⟩ := d0; have ev0 := hf.val 2 150 _ z0 (by kernel_rfl) (by kernel_rfl) (by kernel_rfl); clear z0; clear hd hf; intro K hK; go_simp; exact hK.out _ _ (Ext.refl _) y0 (FreshIf.no rfl) }) ?_
    refine RgAll.cons (by { (with_reducible refine RgL.mk (by rfl) ?_); intro v a w' hE hd hf; have d0 : (IsT2 (IsV (.int .i64 9223372036854775807)) (IsV (.bool true))) (v 2) w' := hd 2 (by kernel_rfl); obtain ⟨x0, x1, z0, y0, y1⟩ := d0; have ev0 := hf.val 2 150 _ z0 (by kernel_rfl) (by kernel_rfl) (by kernel_rfl); clear z0; clear hd hf; intro K hK; go_simp; exact hK.out _ _ (Ext.refl _) y1 (FreshIf.no rfl) }) ?_
    refine RgAll.cons (by { (with_reducible refine RgL.mk (by rfl) ?_); intro v a w' hE hd hf; have d0 : v 3 = .int .i64 9223372036854775807 := hd 3 (by kernel_rfl); have ev0 := hf.val 3 153 _ d0 (by kernel_rfl) (by kernel_rfl) (by kernel_rfl); clear d0; clear hd hf; intro K hK; go_simp; exact hK.out _ _ (Ext.refl _) rfl (FreshIf.no rfl) }) ?_
    refine RgAll.cons (by { (with_reducible refine RgL.mk (by rfl) ?_); intro v a w' hE hd hf; have d0 : v 4 = .bool true := hd 4 (by kernel_rfl); have ev0 := hf.val 4 154 _ d0 (by kernel_rfl) (by kernel_rfl) (by kernel_rfl); clear d0; clear hd hf; intro K hK; go_simp; exact hK.out _ _ (Ext.refl _) rfl (FreshIf.no rfl) }) ?_
    exact RgAll.nil
  intro v W19 e1 hΦ _
  replace S := S.mono e1
  have v5 : v 5 = .int .i64 9223372036854775807 := hΦ 5 (by decide)
  have v6 : v 6 = .bool true := hΦ 6 (by decide)
  simp only [layL, Act.put, List.setIfInBounds_toArray, List.set_cons_zero, List.set_cons_succ, Nat.reduceAdd]
  rw [v5, v6]
  clear v5 v6
  clear hΦ
  clear e1
  refine wpList_nil ?_
  go_upto_region 21 with (fail)
  refine wp_region_rgs 7 [some 156, some 157, some 155, some 158, some 159, some 27, some 28] [IsI 2 ((-9223372036854775808)), IsT2 (IsV (.int .i64 (-9223372036854775808))) (IsV (.bool true)), IsT2 (IsV (.int .i64 (-9223372036854775808))) (IsV (.bool true)), IsV (.int .i64 (-9223372036854775808)), IsV (.bool true), IsV (.int .i64 (-9223372036854775808)), IsV (.bool true)] [] (by decide) (by kernel_rfl) (by kernel_rfl) (by kernel_rfl) ?_ ?_ ?_ ?_
  · repeat' (first | exact trivial | exact IsV.stb _ | exact IsW.stb _ | exact IsWk.stb _ _ | exact IsI.stb _ _ | exact IsB.stb _ | exact IsR.stb _ _ | exact IsMag.stb _ _ | exact IsPos.stb | apply IsT3.stb | apply IsT2.stb | apply And.intro)
  · exact (fun _ h => by cases h)
  · refine RgAll.cons (by { (with_reducible refine RgL.mk (by rfl) ?_); intro v a w' hE hd hf; have ev0 := hf.lit 24 (.pointer (some ⟨g24, 0, none⟩)) (by kernel_rfl) (by kernel_rfl); obtain ⟨s8, a8, n8, c8, b8, h8⟩ := (S.mono hE).at 0 (g24) (IsI 2 ((-9223372036854775808))) rfl; have L0 := b8.c0; have L1 := b8.c1; clear hd hf; intro K hK; go_simp; exact hK.out _ _ (Ext.refl _) h8 (FreshIf.no rfl) }) ?_
    refine RgAll.cons (by { (with_reducible refine RgL.mk (by rfl) ?_); intro v a w' hE hd hf; have d0 : (IsI 2 ((-9223372036854775808))) (v 0) w' := hd 0 (by kernel_rfl); have ev0 := hf.val 0 156 _ rfl (by kernel_rfl) (by kernel_rfl) (by kernel_rfl); clear hd hf; intro K hK; go_simp; go_at_call 32; go_split_ands; (with_reducible refine Calls.mono (Low_t d0 (by decide) (by decide)) ?_); rintro e w2 ⟨x, rfl, e2, hx⟩; exact hK.out _ _ e2 hx (FreshIf.no rfl) }) ?_
    refine RgAll.cons (by { (with_reducible refine RgL.mk (by rfl) ?_); intro v a w' hE hd hf; have d0 : (IsT2 (IsV (.int .i64 (-9223372036854775808))) (IsV (.bool true))) (v 1) w' := hd 1 (by kernel_rfl); have ev0 := hf.val 1 157 _ rfl (by kernel_rfl) (by kernel_rfl) (by kernel_rfl); clear hd hf; intro K hK; go_simp; exact hK.out _ _ (Ext.refl _) d0 (FreshIf.no rfl) }) ?_
    refine RgAll.cons (by { (with_reducible refine RgL.mk (by rfl) ?_); intro v a w' hE hd hf; have d0 : (IsT2 (IsV (.int .i64 (-9223372036854775808))) (IsV (.bool true))) (v 2) w' := hd 2 (by kernel_rfl); obtain ⟨x0, x1, z0, y0, y1⟩ := d0; have ev0 := hf.val 2 155 _ z0 (by kernel_rfl) (by kernel_rfl) (by kernel_rfl); clear z0; clear hd hf; intro K hK; go_simp; exact hK.out _ _ (Ext.refl _) y0 (FreshIf.no rfl) }) ?_
    refine RgAll.cons (by { (with_reducible refine RgL.mk (by rfl) ?_); intro v a w' hE hd hf; have d0 : (IsT2 (IsV (.int .i64 (-9223372036854775808))) (IsV (.bool true))) (v 2) w' := hd 2 (by kernel_rfl); obtain ⟨x0, x1, z0, y0, y1⟩ := d0; have ev0 := hf.val 2 155 _ z0 (by kernel_rfl) (by kernel_rfl) (by kernel_rfl); clear z0; clear hd hf; intro K hK; go_simp; exact hK.out _ _ (Ext.refl _) y1 (FreshIf.no rfl) }) ?_
    refine RgAll.cons (by { (with_reducible refine RgL.mk (by rfl) ?_); intro v a w' hE hd hf; have d0 : v 3 = .int .i64 (-9223372036854775808) := hd 3 (by kernel_rfl); have ev0 := hf.val 3 158 _ d0 (by kernel_rfl) (by kernel_rfl) (by kernel_rfl); clear d0; clear hd hf; intro K hK; go_simp; exact hK.out _ _ (Ext.refl _) rfl (FreshIf.no rfl) }) ?_
    refine RgAll.cons (by { (with_reducible refine RgL.mk (by rfl) ?_); intro v a w' hE hd hf; have d0 : v 4 = .bool true := hd 4 (by kernel_rfl); have ev0 := hf.val 4 159 _ d0 (by kernel_rfl) (by kernel_rfl) (by kernel_rfl); clear d0; clear hd hf; intro K hK; go_simp; exact hK.out _ _ (Ext.refl _) rfl (FreshIf.no rfl) }) ?_
    exact RgAll.nil
  intro v W20 e1 hΦ _
  replace S := S.mono e1
  have v5 : v 5 = .int .i64 (-9223372036854775808) := hΦ 5 (by decide)
  have v6 : v 6 = .bool true := hΦ 6 (by decide)
  simp only [layL, Act.put, List.setIfInBounds_toArray, List.set_cons_zero, List.set_cons_succ, Nat.reduceAdd]
  rw [v5, v6]
  clear v5 v6
  clear hΦ
  clear e1
  refine wpList_nil ?_
  go_upto_region 22 with (fail)
  refine wp_region_rg 9 [some 161, some 162, some 163, some 164, some 160, some 165, some 166, some 29, some 30] [IsI 2 9223372036854775807, IsI 2 1, IsI 3 (9223372036854775807 + 1), IsT2 (IsV (.int .i64 0)) (IsV (.bool false)), IsT2 (IsV (.int .i64 0)) (IsV (.bool false)), IsV (.int .i64 0), IsV (.bool false), IsV (.int .i64 0), IsV (.bool false)] [] 0 (by kernel_rfl) (by decide) (by kernel_rfl) (by kernel_rfl) (by kernel_rfl) (by kernel_rfl) (by kernel_rfl) ?_ ?_ ?_ ?_
  · repeat' (first | exact trivial | exact IsV.stb _ | exact IsW.stb _ | exact IsWk.stb _ _ | exact IsI.stb _ _ | exact IsB.stb _ | exact IsR.stb _ _ | exact IsMag.stb _ _ | exact IsPos.stb | apply IsT3.stb | apply IsT2.stb | apply And.intro)
  · exact (fun _ h => by cases h)
  · refine RgAll.cons (by { (with_reducible refine RgL.mk (by rfl) ?_); intro v a w' hE hd hf; have ev0 := hf.lit 23 (.pointer (some ⟨g23, 0, none⟩)) (by kernel_rfl) (by kernel_rfl); obtain ⟨s8, a8, n8, c8, b8, h8⟩ := (S.mono hE).at 1 (g23) (IsI 2 9223372036854775807) rfl; have L0 := b8.c0; have L1 := b8.c1; clear hd hf; intro K hK; go_simp; exact hK.out _ _ (Ext.refl _) h8 (FreshIf.no rfl) }) ?_
    refine RgAll.cons (by { (with_reducible refine RgL.mk (by rfl) ?_); intro v a w' hE hd hf; skip; clear hd hf; intro K hK; go_simp; go_at_call 23; go_split_ands; (with_reducible refine Calls.mono (Of_f _ 1 (by decide) (by decide)) ?_); rintro e w2 ⟨x, rfl, e2, hx⟩; exact hK.out _ _ e2 hx (FreshIf.no rfl) }) ?_
    refine RgAll.cons (by { (with_reducible refine RgL.mk (by rfl) ?_); intro v a w' hE hd hf; have d0 : (IsI 2 9223372036854775807) (v 0) w' := hd 0 (by kernel_rfl); have ev0 := hf.val 0 161 _ rfl (by kernel_rfl) (by kernel_rfl) (by kernel_rfl); have d1 : (IsI 2 1) (v 1) w' := hd 1 (by kernel_rfl); have ev1 := hf.val 1 162 _ rfl (by kernel_rfl) (by kernel_rfl) (by kernel_rfl); clear hd hf; intro K hK; go_simp; go_at_call 12; go_split_ands; (with_reducible refine Calls.mono (Add_f d0 d1 (by decide) (by decide)) ?_); rintro e w2 ⟨x, rfl, e2, hx⟩; exact hK.out _ _ e2 hx (FreshIf.no rfl) }) ?_
    refine RgAll.cons (by { (with_reducible refine RgL.mk (by rfl) ?_); intro v a w' hE hd hf; have d0 : (IsI 3 (9223372036854775807 + 1)) (v 2) w' := hd 2 (by kernel_rfl); have ev0 := hf.val 2 163 _ rfl (by kernel_rfl) (by kernel_rfl) (by kernel_rfl); clear hd hf; intro K hK; go_simp; go_at_call 32; go_split_ands; (with_reducible refine Calls.mono (Low_n d0 (by decide)) ?_); rintro e w2 ⟨x, rfl, e2, hx⟩; exact hK.out _ _ e2 hx (FreshIf.no rfl) }) ?_
    refine RgAll.cons (by { (with_reducible refine RgL.mk (by rfl) ?_); intro v a w' hE hd hf; have d0 : (IsT2 (IsV (.int .i64 0)) (IsV (.bool false))) (v 3) w' := hd 3 (by kernel_rfl); have ev0 := hf.val 3 164 _ rfl (by kernel_rfl) (by kernel_rfl) (by kernel_rfl); clear hd hf; intro K hK; go_simp; exact hK.out _ _ (Ext.refl _) d0 (FreshIf.no rfl) }) ?_
    refine RgAll.cons (by { (with_reducible refine RgL.mk (by rfl) ?_); intro v a w' hE hd hf; have d0 : (IsT2 (IsV (.int .i64 0)) (IsV (.bool false))) (v 4) w' := hd 4 (by kernel_rfl); obtain ⟨x0, x1, z0, y0, y1⟩ := d0; have ev0 := hf.val 4 160 _ z0 (by kernel_rfl) (by kernel_rfl) (by kernel_rfl); clear z0; clear hd hf; intro K hK; go_simp; exact hK.out _ _ (Ext.refl _) y0 (FreshIf.no rfl) }) ?_
    refine RgAll.cons (by { (with_reducible refine RgL.mk (by rfl) ?_); intro v a w' hE hd hf; have d0 : (IsT2 (IsV (.int .i64 0)) (IsV (.bool false))) (v 4) w' := hd 4 (by kernel_rfl); obtain ⟨x0, x1, z0, y0, y1⟩ := d0; have ev0 := hf.val 4 160 _ z0 (by kernel_rfl) (by kernel_rfl) (by kernel_rfl); clear z0; clear hd hf; intro K hK; go_simp; exact hK.out _ _ (Ext.refl _) y1 (FreshIf.no rfl) }) ?_
    refine RgAll.cons (by { (with_reducible refine RgL.mk (by rfl) ?_); intro v a w' hE hd hf; have d0 : v 5 = .int .i64 0 := hd 5 (by kernel_rfl); have ev0 := hf.val 5 165 _ d0 (by kernel_rfl) (by kernel_rfl) (by kernel_rfl); clear d0; clear hd hf; intro K hK; go_simp; exact hK.out _ _ (Ext.refl _) rfl (FreshIf.no rfl) }) ?_
    refine RgAll.cons (by { (with_reducible refine RgL.mk (by rfl) ?_); intro v a w' hE hd hf; have d0 : v 6 = .bool false := hd 6 (by kernel_rfl); have ev0 := hf.val 6 166 _ d0 (by kernel_rfl) (by kernel_rfl) (by kernel_rfl); clear d0; clear hd hf; intro K hK; go_simp; exact hK.out _ _ (Ext.refl _) rfl (FreshIf.no rfl) }) ?_
    exact RgAll.nil
  intro v W21 e1 hΦ _
  replace S := S.mono e1
  have v8 : v 8 = .bool false := hΦ 8 (by decide)
  simp only [layL, Act.put, List.setIfInBounds_toArray, List.set_cons_zero, List.set_cons_succ, Nat.reduceAdd]
  rw [v8]
  clear v8
  clear hΦ
  clear e1
  refine wpAny_done (by kernel_rfl) ?_ _
  go_upto_region 23 with (fail)
  refine wp_region_rg 9 [some 168, some 169, some 170, some 171, some 167, some 172, some 173, some 31, some 32] [IsI 2 ((-9223372036854775808)), IsI 2 1, IsI 3 (((-9223372036854775808)) - 1), IsT2 (IsV (.int .i64 0)) (IsV (.bool false)), IsT2 (IsV (.int .i64 0)) (IsV (.bool false)), IsV (.int .i64 0), IsV (.bool false), IsV (.int .i64 0), IsV (.bool false)] [] 0 (by kernel_rfl) (by decide) (by kernel_rfl) (by kernel_rfl) (by kernel_rfl) (by kernel_rfl) (by kernel_rfl) ?_ ?_ ?_ ?_
  · repeat' (first | exact trivial | exact IsV.stb _ | exact IsW.stb _ | exact IsWk.stb _ _ | exact IsI.stb _ _ | exact IsB.stb _ | exact IsR.stb _ _ | exact IsMag.stb _ _ | exact IsPos.stb | apply IsT3.stb | apply IsT2.stb | apply And.intro)
  · exact (fun _ h => by cases h)
  · refine RgAll.cons (by { (with_reducible refine RgL.mk (by rfl) ?_); intro v a w' hE hd hf; have ev0 := hf.lit 24 (.pointer (some ⟨g24, 0, none⟩)) (by kernel_rfl) (by kernel_rfl); obtain ⟨s8, a8, n8, c8, b8, h8⟩ := (S.mono hE).at 0 (g24) (IsI 2 ((-9223372036854775808))) rfl; have L0 := b8.c0; have L1 := b8.c1; clear hd hf; intro K hK; go_simp; exact hK.out _ _ (Ext.refl _) h8 (FreshIf.no rfl) }) ?_
    refine RgAll.cons (by { (with_reducible refine RgL.mk (by rfl) ?_); intro v a w' hE hd hf; skip; clear hd hf; intro K hK; go_simp; go_at_call 23; go_split_ands; (with_reducible refine Calls.mono (Of_f _ 1 (by decide) (by decide)) ?_); rintro e w2 ⟨x, rfl, e2, hx⟩; exact hK.out _ _ e2 hx (FreshIf.no rfl) }) ?_
    refine RgAll.cons (by { (with_reducible refine RgL.mk (by rfl) ?_); intro v a w' hE hd hf; have d0 : (IsI 2 ((-9223372036854775808))) (v 0) w' := hd 0 (by kernel_rfl); have ev0 := hf.val 0 168 _ rfl (by kernel_rfl) (by kernel_rfl) (by kernel_rfl); have d1 : (IsI 2 1) (v 1) w' := hd 1 (by kernel_rfl); have ev1 := hf.val 1 169 _ rfl (by kernel_rfl) (by kernel_rfl) (by kernel_rfl); clear hd hf; intro K hK; go_simp; go_at_call 22; go_split_ands; (with_reducible refine Calls.mono (Sub_f d0 d1 (by decide) (by decide)) ?_); rintro e w2 ⟨x, rfl, e2, hx⟩; exact hK.out _ _ e2 hx (FreshIf.no rfl) }) ?_
    refine RgAll.cons (by { (with_reducible refine RgL.mk (by rfl) ?_); intro v a w' hE hd hf; have d0 : (IsI 3 (((-9223372036854775808)) - 1)) (v 2) w' := hd 2 (by kernel_rfl); have ev0 := hf.val 2 170 _ rfl (by kernel_rfl) (by kernel_rfl) (by kernel_rfl); clear hd hf; intro K hK; go_simp; go_at_call 32; go_split_ands; (with_reducible refine Calls.mono (Low_n d0 (by decide)) ?_); rintro e w2 ⟨x, rfl, e2, hx⟩; exact hK.out _ _ e2 hx (FreshIf.no rfl) }) ?_
    refine RgAll.cons (by { (with_reducible refine RgL.mk (by rfl) ?_); intro v a w' hE hd hf; have d0 : (IsT2 (IsV (.int .i64 0)) (IsV (.bool false))) (v 3) w' := hd 3 (by kernel_rfl); have ev0 := hf.val 3 171 _ rfl (by kernel_rfl) (by kernel_rfl) (by kernel_rfl); clear hd hf; intro K hK; go_simp; exact hK.out _ _ (Ext.refl _) d0 (FreshIf.no rfl) }) ?_
    refine RgAll.cons (by { (with_reducible refine RgL.mk (by rfl) ?_); intro v a w' hE hd hf; have d0 : (IsT2 (IsV (.int .i64 0)) (IsV (.bool false))) (v 4) w' := hd 4 (by kernel_rfl); obtain ⟨x0, x1, z0, y0, y1⟩ := d0; have ev0 := hf.val 4 167 _ z0 (by kernel_rfl) (by kernel_rfl) (by kernel_rfl); clear z0; clear hd hf; intro K hK; go_simp; exact hK.out _ _ (Ext.refl _) y0 (FreshIf.no rfl) }) ?_
    refine RgAll.cons (by { (with_reducible refine RgL.mk (by rfl) ?_); intro v a w' hE hd hf; have d0 : (IsT2 (IsV (.int .i64 0)) (IsV (.bool false))) (v 4) w' := hd 4 (by kernel_rfl); obtain ⟨x0, x1, z0, y0, y1⟩ := d0; have ev0 := hf.val 4 167 _ z0 (by kernel_rfl) (by kernel_rfl) (by kernel_rfl); clear z0; clear hd hf; intro K hK; go_simp; exact hK.out _ _ (Ext.refl _) y1 (FreshIf.no rfl) }) ?_
    refine RgAll.cons (by { (with_reducible refine RgL.mk (by rfl) ?_); intro v a w' hE hd hf; have d0 : v 5 = .int .i64 0 := hd 5 (by kernel_rfl); have ev0 := hf.val 5 172 _ d0 (by kernel_rfl) (by kernel_rfl) (by kernel_rfl); clear d0; clear hd hf; intro K hK; go_simp; exact hK.out _ _ (Ext.refl _) rfl (FreshIf.no rfl) }) ?_
    refine RgAll.cons (by { (with_reducible refine RgL.mk (by rfl) ?_); intro v a w' hE hd hf; have d0 : v 6 = .bool false := hd 6 (by kernel_rfl); have ev0 := hf.val 6 173 _ d0 (by kernel_rfl) (by kernel_rfl) (by kernel_rfl); clear d0; clear hd hf; intro K hK; go_simp; exact hK.out _ _ (Ext.refl _) rfl (FreshIf.no rfl) }) ?_
    exact RgAll.nil
  intro v W22 e1 hΦ _
  replace S := S.mono e1
  have v8 : v 8 = .bool false := hΦ 8 (by decide)
  simp only [layL, Act.put, List.setIfInBounds_toArray, List.set_cons_zero, List.set_cons_succ, Nat.reduceAdd]
  rw [v8]
  clear v8
  clear hΦ
  clear e1
  refine wpAny_done (by kernel_rfl) ?_ _
  go_upto_region 24 with (fail)
  refine wp_region_rgs 20 [some 174, some 175, some 176, some 177, some 178, some 179, some 180, some 181, some 182, some 183, some 184, some 185, some 186, some 187, some 188, some 189, some 190, some 191, some 192, some 193] [IsV (.bool true), IsV (.bool false), IsV (.bool false), IsV (.bool true), IsV (.bool false), IsV (.bool false), IsV (.bool false), IsV (.bool false), IsV (.bool false), IsV (.bool false), IsV (.bool false), IsV (.bool false), IsV (.bool false), IsV (.int .i64 9223372036854775807), IsV (.bool false), IsV (.bool false), IsV (.bool false), IsV (.int .i64 (-9223372036854775808)), IsV (.bool false), IsV (.bool false)] [] (by decide) (by kernel_rfl) (by kernel_rfl) (by kernel_rfl) ?_ ?_ ?_ ?_
  · repeat' (first | exact trivial | exact IsV.stb _ | exact IsW.stb _ | exact IsWk.stb _ _ | exact IsI.stb _ _ | exact IsB.stb _ | exact IsR.stb _ _ | exact IsMag.stb _ _ | exact IsPos.stb | apply IsT3.stb | apply IsT2.stb | apply And.intro)
  · exact (fun _ h => by cases h)
  · refine RgAll.cons (by { (with_reducible refine RgL.mk (by rfl) ?_); intro v a w' hE hd hf; have ev0 := hf.lit 26 (.bool true) (by kernel_rfl) (by kernel_rfl); clear hd hf; intro K hK; go_simp; exact hK.out _ _ (Ext.refl _) rfl (FreshIf.no rfl) }) ?_
    refine RgAll.cons (by { (with_reducible refine RgL.mk (by rfl) ?_); intro v a w' hE hd hf; have d0 : v 0 = .bool true := hd 0 (by kernel_rfl); have ev0 := hf.val 0 174 _ d0 (by kernel_rfl) (by kernel_rfl) (by kernel_rfl); clear d0; clear hd hf; intro K hK; go_simp; exact hK.out _ _ (Ext.refl _) rfl (FreshIf.no rfl) }) ?_
    refine RgAll.cons (by { (with_reducible refine RgL.mk (by rfl) ?_); intro v a w' hE hd hf; have d0 : v 1 = .bool false := hd 1 (by kernel_rfl); have ev0 := hf.val 1 175 _ d0 (by kernel_rfl) (by kernel_rfl) (by kernel_rfl); clear d0; clear hd hf; intro K hK; go_simp; exact hK.out _ _ (Ext.refl _) rfl (FreshIf.no rfl) }) ?_
    refine RgAll.cons (by { (with_reducible refine RgL.mkG 2 176 false (by rfl) (by kernel_rfl) (by kernel_rfl) (by kernel_rfl) (by kernel_rfl) (by kernel_rfl) ?_ ?_); (focus (intro _ _ h; exact h)); intro v a w' hE hd hf; have ev0 := hf.lit 28 (.bool true) (by kernel_rfl) (by kernel_rfl); clear hd hf; intro K hK; go_simp; exact hK.out _ _ (Ext.refl _) rfl (FreshIf.no rfl) }) ?_
    refine RgAll.cons (by { (with_reducible refine RgL.mkG 2 176 false (by rfl) (by kernel_rfl) (by kernel_rfl) (by kernel_rfl) (by kernel_rfl) (by kernel_rfl) ?_ ?_); (focus (intro _ _ h; exact h)); intro v a w' hE hd hf; have d0 : v 3 = .bool true := hd 3 (by kernel_rfl); have ev0 := hf.val 3 177 _ d0 (by kernel_rfl) (by kernel_rfl) (by kernel_rfl); clear d0; clear hd hf; intro K hK; go_simp; exact hK.out _ _ (Ext.refl _) rfl (FreshIf.no rfl) }) ?_
    refine RgAll.cons (by { (with_reducible refine RgL.mk (by rfl) ?_); intro v a w' hE hd hf; have d0 : v 2 = .bool false := hd 2 (by kernel_rfl); have ev0 := hf.val 2 176 _ d0 (by kernel_rfl) (by kernel_rfl) (by kernel_rfl); clear d0; have d1 : v 4 = .bool false := hd 4 (by kernel_rfl); have ev1 := hf.val 4 178 _ d1 (by kernel_rfl) (by kernel_rfl) (by kernel_rfl); clear d1; clear hd hf; intro K hK; go_simp; exact hK.out _ _ (Ext.refl _) rfl (FreshIf.no rfl) }) ?_
    refine RgAll.cons (by { (with_reducible refine RgL.mk (by rfl) ?_); intro v a w' hE hd hf; have d0 : v 5 = .bool false := hd 5 (by kernel_rfl); have ev0 := hf.val 5 179 _ d0 (by kernel_rfl) (by kernel_rfl) (by kernel_rfl); clear d0; clear hd hf; intro K hK; go_simp; exact hK.out _ _ (Ext.refl _) rfl (FreshIf.no rfl) }) ?_
    refine RgAll.cons (by { (with_reducible refine RgL.mkG 6 180 false (by rfl) (by kernel_rfl) (by kernel_rfl) (by kernel_rfl) (by kernel_rfl) (by kernel_rfl) ?_ ?_); (focus (intro _ _ h; exact h)); intro v a w' hE hd hf; have ev0 := hf.lit 30 (.bool false) (by kernel_rfl) (by kernel_rfl); clear hd hf; intro K hK; go_simp; exact hK.out _ _ (Ext.refl _) rfl (FreshIf.no rfl) }) ?_
    refine RgAll.cons (by { (with_reducible refine RgL.mk (by rfl) ?_); intro v a w' hE hd hf; have d0 : v 6 = .bool false := hd 6 (by kernel_rfl); have ev0 := hf.val 6 180 _ d0 (by kernel_rfl) (by kernel_rfl) (by kernel_rfl); clear d0; have d1 : v 7 = .bool false := hd 7 (by kernel_rfl); have ev1 := hf.val 7 181 _ d1 (by kernel_rfl) (by kernel_rfl) (by kernel_rfl); clear d1; clear hd hf; intro K hK; go_simp; exact hK.out _ _ (Ext.refl _) rfl (FreshIf.no rfl) }) ?_
    refine RgAll.cons (by { (with_reducible refine RgL.mk (by rfl) ?_); intro v a w' hE hd hf; have d0 : v 8 = .bool false := hd 8 (by kernel_rfl); have ev0 := hf.val 8 182 _ d0 (by kernel_rfl) (by kernel_rfl) (by kernel_rfl); clear d0; clear hd hf; intro K hK; go_simp; exact hK.out _ _ (Ext.refl _) rfl (FreshIf.no rfl) }) ?_
    refine RgAll.cons (by { (with_reducible refine RgL.mkG 9 183 false (by rfl) (by kernel_rfl) (by kernel_rfl) (by kernel_rfl) (by kernel_rfl) (by kernel_rfl) ?_ ?_); (focus (intro _ _ h; exact h)); intro v a w' hE hd hf; have ev0 := hf.lit 32 (.bool false) (by kernel_rfl) (by kernel_rfl); clear hd hf; intro K hK; go_simp; exact hK.out _ _ (Ext.refl _) rfl (FreshIf.no rfl) }) ?_
    refine RgAll.cons (by { (with_reducible refine RgL.mk (by rfl) ?_); intro v a w' hE hd hf; have d0 : v 9 = .bool false := hd 9 (by kernel_rfl); have ev0 := hf.val 9 183 _ d0 (by kernel_rfl) (by kernel_rfl) (by kernel_rfl); clear d0; have d1 : v 10 = .bool false := hd 10 (by kernel_rfl); have ev1 := hf.val 10 184 _ d1 (by kernel_rfl) (by kernel_rfl) (by kernel_rfl); clear d1; clear hd hf; intro K hK; go_simp; exact hK.out _ _ (Ext.refl _) rfl (FreshIf.no rfl) }) ?_
    refine RgAll.cons (by { (with_reducible refine RgL.mk (by rfl) ?_); intro v a w' hE hd hf; have d0 : v 11 = .bool false := hd 11 (by kernel_rfl); have ev0 := hf.val 11 185 _ d0 (by kernel_rfl) (by kernel_rfl) (by kernel_rfl); clear d0; clear hd hf; intro K hK; go_simp; exact hK.out _ _ (Ext.refl _) rfl (FreshIf.no rfl) }) ?_
    refine RgAll.cons (by { (with_reducible refine RgL.mkG 12 186 false (by rfl) (by kernel_rfl) (by kernel_rfl) (by kernel_rfl) (by kernel_rfl) (by kernel_rfl) ?_ ?_); (focus (intro _ _ h; exact h)); intro v a w' hE hd hf; have ev0 := hf.lit 25 (.int .i64 9223372036854775807) (by kernel_rfl) (by kernel_rfl); clear hd hf; intro K hK; go_simp; exact hK.out _ _ (Ext.refl _) rfl (FreshIf.no rfl) }) ?_
    refine RgAll.cons (by { (with_reducible refine RgL.mkG 12 186 false (by rfl) (by kernel_rfl) (by kernel_rfl) (by kernel_rfl) (by kernel_rfl) (by kernel_rfl) ?_ ?_); (focus (intro _ _ h; exact h)); intro v a w' hE hd hf; have d0 : v 13 = .int .i64 9223372036854775807 := hd 13 (by kernel_rfl); have ev0 := hf.val 13 187 _ d0 (by kernel_rfl) (by kernel_rfl) (by kernel_rfl); clear d0; clear hd hf; intro K hK; go_simp; exact hK.out _ _ (Ext.refl _) rfl (FreshIf.no rfl) }) ?_
    refine RgAll.cons (by { (with_reducible refine RgL.mk (by rfl) ?_); intro v a w' hE hd hf; have d0 : v 12 = .bool false := hd 12 (by kernel_rfl); have ev0 := hf.val 12 186 _ d0 (by kernel_rfl) (by kernel_rfl) (by kernel_rfl); clear d0; have d1 : v 14 = .bool false := hd 14 (by kernel_rfl); have ev1 := hf.val 14 188 _ d1 (by kernel_rfl) (by kernel_rfl) (by kernel_rfl); clear d1; clear hd hf; intro K hK; go_simp; exact hK.out _ _ (Ext.refl _) rfl (FreshIf.no rfl) }) ?_
    refine RgAll.cons (by { (with_reducible refine RgL.mk (by rfl) ?_); intro v a w' hE hd hf; have d0 : v 15 = .bool false := hd 15 (by kernel_rfl); have ev0 := hf.val 15 189 _ d0 (by kernel_rfl) (by kernel_rfl) (by kernel_rfl); clear d0; clear hd hf; intro K hK; go_simp; exact hK.out _ _ (Ext.refl _) rfl (FreshIf.no rfl) }) ?_
    refine RgAll.cons (by { (with_reducible refine RgL.mkG 16 190 false (by rfl) (by kernel_rfl) (by kernel_rfl) (by kernel_rfl) (by kernel_rfl) (by kernel_rfl) ?_ ?_); (focus (intro _ _ h; exact h)); intro v a w' hE hd hf; have ev0 := hf.lit 27 (.int .i64 (-9223372036854775808)) (by kernel_rfl) (by kernel_rfl); clear hd hf; intro K hK; go_simp; exact hK.out _ _ (Ext.refl _) rfl (FreshIf.no rfl) }) ?_
    refine RgAll.cons (by { (with_reducible refine RgL.mkG 16 190 false (by rfl) (by kernel_rfl) (by kernel_rfl) (by kernel_rfl) (by kernel_rfl) (by kernel_rfl) ?_ ?_); (focus (intro _ _ h; exact h)); intro v a w' hE hd hf; have d0 : v 17 = .int .i64 (-9223372036854775808) := hd 17 (by kernel_rfl); have ev0 := hf.val 17 191 _ d0 (by kernel_rfl) (by kernel_rfl) (by kernel_rfl); clear d0; clear hd hf; intro K hK; go_simp; exact hK.out _ _ (Ext.refl _) rfl (FreshIf.no rfl) }) ?_
    refine RgAll.cons (by { (with_reducible refine RgL.mk (by rfl) ?_); intro v a w' hE hd hf; have d0 : v 16 = .bool false := hd 16 (by kernel_rfl); have ev0 := hf.val 16 190 _ d0 (by kernel_rfl) (by kernel_rfl) (by kernel_rfl); clear d0; have d1 : v 18 = .bool false := hd 18 (by kernel_rfl); have ev1 := hf.val 18 192 _ d1 (by kernel_rfl) (by kernel_rfl) (by kernel_rfl); clear d1; clear hd hf; intro K hK; go_simp; exact hK.out _ _ (Ext.refl _) rfl (FreshIf.no rfl) }) ?_
    exact RgAll.nil
  intro v W23 e1 hΦ _
  replace S := S.mono e1
  have v19 : v 19 = .bool false := hΦ 19 (by decide)
  simp only [layL, Act.put, List.setIfInBounds_toArray, List.set_cons_zero, List.set_cons_succ, Nat.reduceAdd]
  rw [v19]
  clear v19
  clear hΦ
  clear e1
  refine wpList_nil ?_
  go_upto_region 26 with (fail)
  refine wp_region_rg 9 [some 194, some 195, some 196, some 197, some 198, some 199, some 200, some 201, some 6] [IsV (.bool true), IsV (.bool true), IsR s3 x3, IsV (.bool vb), IsR s3 x3, IsV (.bool vb), IsV (.bool true), IsV (.bool true), IsV (.bool true)] [] 0 (by kernel_rfl) (by decide) (by kernel_rfl) (by kernel_rfl) (by kernel_rfl) (by kernel_rfl) (by kernel_rfl) ?_ ?_ ?_ ?_
  · repeat' (first | exact trivial | exact IsV.stb _ | exact IsW.stb _ | exact IsWk.stb _ _ | exact IsI.stb _ _ | exact IsB.stb _ | exact IsR.stb _ _ | exact IsMag.stb _ _ | exact IsPos.stb | apply IsT3.stb | apply IsT2.stb | apply And.intro)
  · exact (fun _ h => by cases h)
  · refine RgAll.cons (by { (with_reducible refine RgL.mk (by rfl) ?_); intro v a w' hE hd hf; have ev0 := hf.lit 7 (.bool true) (by kernel_rfl) (by kernel_rfl); clear hd hf; intro K hK; go_simp; exact hK.out _ _ (Ext.refl _) rfl (FreshIf.no rfl) }) ?_
    refine RgAll.cons (by { (with_reducible refine RgL.mk (by rfl) ?_); intro v a w' hE hd hf; have d0 : v 0 = .bool true := hd 0 (by kernel_rfl); have ev0 := hf.val 0 194 _ d0 (by kernel_rfl) (by kernel_rfl) (by kernel_rfl); clear d0; clear hd hf; intro K hK; go_simp; exact hK.out _ _ (Ext.refl _) rfl (FreshIf.no rfl) }) ?_
    refine RgAll.cons (by { (with_reducible refine RgL.mkG 1 195 true (by rfl) (by kernel_rfl) (by kernel_rfl) (by kernel_rfl) (by kernel_rfl) (by kernel_rfl) ?_ ?_); (focus (intro _ _ h; exact h)); intro v a w' hE hd hf; have ev0 := hf.lit 5 (.pointer (some ⟨w.heap.size, 0, none⟩)) (by kernel_rfl) (by kernel_rfl); obtain ⟨s8, a8, n8, c8, b8, h8⟩ := (S.mono hE).at 6 (w.heap.size) (IsR s3 x3) rfl; have L0 := b8.c0; have L1 := b8.c1; clear hd hf; intro K hK; go_simp; exact hK.out _ _ (Ext.refl _) h8 (FreshIf.no rfl) }) ?_
    refine RgAll.cons (by { (with_reducible refine RgL.mkG 1 195 true (by rfl) (by kernel_rfl) (by kernel_rfl) (by kernel_rfl) (by kernel_rfl) (by kernel_rfl) ?_ ?_); (focus (intro _ _ h; exact h)); intro v a w' hE hd hf; have d0 : (IsR s3 x3) (v 2) w' := hd 2 (by kernel_rfl); have ev0 := hf.val 2 196 _ rfl (by kernel_rfl) (by kernel_rfl) (by kernel_rfl); clear hd hf; intro K hK; go_simp; go_at_call 30; go_split_ands; (with_reducible refine Calls.mono ((by have hh := ValidR_f d0; rw [HV.out] at hh; exact hh)) ?_); rintro e w2 ⟨x, rfl, e2, hx⟩; exact hK.out _ _ e2 hx (FreshIf.no rfl) }) ?_
    refine RgAll.cons (by { (with_reducible refine RgL.mkG 1 195 true (by rfl) (by kernel_rfl) (by kernel_rfl) (by kernel_rfl) (by kernel_rfl) (by kernel_rfl) ?_ ?_); (focus (intro _ _ h; exact h)); intro v a w' hE hd hf; have ev0 := hf.lit 5 (.pointer (some ⟨w.heap.size, 0, none⟩)) (by kernel_rfl) (by kernel_rfl); obtain ⟨s8, a8, n8, c8, b8, h8⟩ := (S.mono hE).at 6 (w.heap.size) (IsR s3 x3) rfl; have L0 := b8.c0; have L1 := b8.c1; clear hd hf; intro K hK; go_simp; exact hK.out _ _ (Ext.refl _) h8 (FreshIf.no rfl) }) ?_
    refine RgAll.cons (by { (with_reducible refine RgL.mkG 1 195 true (by rfl) (by kernel_rfl) (by kernel_rfl) (by kernel_rfl) (by kernel_rfl) (by kernel_rfl) ?_ ?_); (focus (intro _ _ h; exact h)); intro v a w' hE hd hf; have d0 : (IsR s3 x3) (v 4) w' := hd 4 (by kernel_rfl); have ev0 := hf.val 4 198 _ rfl (by kernel_rfl) (by kernel_rfl) (by kernel_rfl); clear hd hf; intro K hK; go_simp; go_at_call 31; go_split_ands; (with_reducible refine Calls.mono ((by have hh := RValidR_f d0; rw [HV.out] at hh; exact hh)) ?_); rintro e w2 ⟨x, rfl, e2, hx⟩; exact hK.out _ _ e2 hx (FreshIf.no rfl) }) ?_
    refine RgAll.cons (by { (with_reducible refine RgL.mkG 1 195 true (by rfl) (by kernel_rfl) (by kernel_rfl) (by kernel_rfl) (by kernel_rfl) (by kernel_rfl) ?_ ?_); (focus (intro _ _ h; exact h)); intro v a w' hE hd hf; have d0 : v 3 = .bool vb := hd 3 (by kernel_rfl); have ev0 := hf.val 3 197 _ d0 (by kernel_rfl) (by kernel_rfl) (by kernel_rfl); clear d0; have d1 : v 5 = .bool vb := hd 5 (by kernel_rfl); have ev1 := hf.val 5 199 _ d1 (by kernel_rfl) (by kernel_rfl) (by kernel_rfl); clear d1; clear hd hf; intro K hK; go_simp; exact hK.out _ _ (Ext.refl _) rfl (FreshIf.no rfl) }) ?_
    refine RgAll.cons (by { (with_reducible refine RgL.mk (by rfl) ?_); intro v a w' hE hd hf; have d0 : v 1 = .bool true := hd 1 (by kernel_rfl); have ev0 := hf.val 1 195 _ d0 (by kernel_rfl) (by kernel_rfl) (by kernel_rfl); clear d0; have d1 : v 6 = .bool true := hd 6 (by kernel_rfl); have ev1 := hf.val 6 200 _ d1 (by kernel_rfl) (by kernel_rfl) (by kernel_rfl); clear d1; clear hd hf; intro K hK; go_simp; exact hK.out _ _ (Ext.refl _) rfl (FreshIf.no rfl) }) ?_
    refine RgAll.cons (by { (with_reducible refine RgL.mk (by rfl) ?_); intro v a w' hE hd hf; have d0 : v 7 = .bool true := hd 7 (by kernel_rfl); have ev0 := hf.val 7 201 _ d0 (by kernel_rfl) (by kernel_rfl) (by kernel_rfl); clear d0; clear hd hf; intro K hK; go_simp; exact hK.out _ _ (Ext.refl _) rfl (FreshIf.no rfl) }) ?_
    exact RgAll.nil
  intro v W24 e1 hΦ _
  replace S := S.mono e1
  have v8 : v 8 = .bool true := hΦ 8 (by decide)
  simp only [layL, Act.put, List.setIfInBounds_toArray, List.set_cons_zero, List.set_cons_succ, Nat.reduceAdd]
  rw [v8]
  clear v8
  clear hΦ
  clear e1
  refine wpAny_done (by kernel_rfl) ?_ _
  go_wp2_with fail
  exact bodyPost_ret (v := .bool true) (by simp [results, Tryd.results8, go_sem]) rfl (⟨_, rfl, S.ext, rfl⟩)
set_option maxRecDepth 100000 in
set_option maxHeartbeats 8000000 in
theorem Small_1 (w : World) (xx yy : Int) (s3 : Bool) (a3 : Option Addr) (n3 c3 : Nat) (x3 : List Nat) (h3 : Wd w a3 n3 c3 x3) (ht : Tab w) (lx : -2147483648 ≤ xx) (ux : xx ≤ 2147483647) (ly : -2147483648 ≤ yy) (uy : yy ≤ 2147483647) (hz : yy ≠ 0) :
    Calls Tryd.prog 8 #[.int .i32 xx, .int .i32 yy, .agg #[.bool s3, .slice a3 n3 c3]] w (Ret w (IsV (.bool true))) := by
  have pr : -4611686018427387904 ≤ xx * yy ∧ xx * yy ≤ 4611686018427387904 := mul_small xx yy lx ux ly uy
  obtain ⟨cc, hcc⟩ : ∃ c, cmpI xx yy = c := ⟨_, rfl⟩
  obtain ⟨b1, hb1⟩ : ∃ b, decide (xx < yy) = b := ⟨_, rfl⟩
  obtain ⟨b2, hb2⟩ : ∃ b, (xx == yy) = b := ⟨_, rfl⟩
  obtain ⟨vb, hvb⟩ : ∃ b, validb s3 x3 = b := ⟨_, rfl⟩
  have HC := hid hcc
  have HV := hid hvb
  have HB := hid (cmp_bools xx yy cc b1 b2 hcc hb1 hb2)
  have HWX := hid (show IntKind.i64.wrap (xx) = xx by simp only [IntKind.wrap_i64]; omega)
  have HWY := hid (show IntKind.i64.wrap (yy) = yy by simp only [IntKind.wrap_i64]; omega)
  have HWS := hid (show IntKind.i64.wrap (xx + yy) = xx + yy by simp only [IntKind.wrap_i64]; omega)
  have HWP := hid (show IntKind.i64.wrap (xx * yy) = xx * yy by simp only [IntKind.wrap_i64]; omega)
  have HX := hid (show -9223372036854775808 ≤ xx ∧ xx ≤ 9223372036854775807 from ⟨by omega, by omega⟩)
  have HY := hid (show -9223372036854775808 ≤ yy ∧ yy ≤ 9223372036854775807 from ⟨by omega, by omega⟩)
  have HSR := hid (show -9223372036854775808 ≤ xx + yy ∧ xx + yy ≤ 9223372036854775807 from ⟨by omega, by omega⟩)
  have HPR := hid (show -9223372036854775808 ≤ xx * yy ∧ xx * yy ≤ 9223372036854775807 from ⟨by omega, by omega⟩)
  obtain ⟨qq, hq⟩ : ∃ q, xx / yy = q := ⟨_, rfl⟩
  obtain ⟨rr, hr⟩ : ∃ r, xx % yy = r := ⟨_, rfl⟩
  have he : qq * yy + rr = xx := by rw [← hq, ← hr, Int.mul_comm]; exact Int.mul_ediv_add_emod xx yy
  have hr0 : 0 ≤ rr := by rw [← hr]; exact Int.emod_nonneg xx hz
  have hrl : rr < yy.natAbs := by rw [← hr]; exact Int.emod_lt xx hz
  have hqa : qq.natAbs ≤ 2147483649 := by
    have h1 : (qq * yy).natAbs ≤ 4294967296 := by omega
    rw [Int.natAbs_mul] at h1
    have h2 : (qq * yy).natAbs ≤ xx.natAbs + yy.natAbs := by omega
    rw [Int.natAbs_mul] at h2
    rcases Nat.lt_or_ge 2147483649 qq.natAbs with h | h
    · exfalso
      obtain ⟨m, hm⟩ : ∃ m, yy.natAbs = m + 1 := ⟨yy.natAbs - 1, by omega⟩
      rw [hm] at h2
      have h3 : 2147483650 * (m + 1) ≤ qq.natAbs * (m + 1) := Nat.mul_le_mul_right _ h
      omega
    · exact h
  obtain ⟨mm, hmm⟩ : ∃ m, max yy (-yy) = m := ⟨_, rfl⟩
  have HMM := hid hmm
  have HRM := hid (show decide (mm ≤ rr) = false by simp; omega)
  have HR0 := hid (show decide (rr < 0) = false by simp; omega)
  have HNZ := hid hz
  have HQ := hid hq
  have HR := hid hr
  have HE := hid he
  have HZB := hid (show (yy != 0) = true by simp [hz])
  have HWQ := hid (show IntKind.i64.wrap (qq * yy) = qq * yy by simp only [IntKind.wrap_i64]; omega)
  have HWN := hid (show IntKind.i64.wrap (-yy) = -yy by simp only [IntKind.wrap_i64]; omega)
  have HQR := hid (show -9223372036854775808 ≤ qq ∧ qq ≤ 9223372036854775807 from ⟨by omega, by omega⟩)
  have HRR := hid (show -9223372036854775808 ≤ rr ∧ rr ≤ 9223372036854775807 from ⟨by omega, by omega⟩)
  clear lx ux ly uy pr hcc hb1 hb2 hvb hz hq hr he hr0 hrl hqa hmm
  obtain ⟨W, hW, S⟩ : ∃ W, W = w.alloc (.cells #[.bool s3, .slice a3 n3 c3] 27) ∧ St w W [(w.heap.size, IsR s3 x3)] := ⟨_, rfl, ((St.start w).new' (w.heap.size) (by simp) s3 a3 n3 c3 27 (IsR s3 x3) (IsR.gstb _ _) ⟨_, _, _, rfl, h3⟩)⟩
  clear h3
  go_enter Tryd.func8, Tryd.ntmps8
  go_upto_region 1 with (fail)
  rw [← hW]
  clear hW
  refine wp_region_rgs 2 [some 33, some 7] [IsV (.bool true), IsV (.bool true)] [] (by decide) (by kernel_rfl) (by kernel_rfl) (by kernel_rfl) ?_ ?_ ?_ ?_
  · repeat' (first | exact trivial | exact IsV.stb _ | exact IsW.stb _ | exact IsWk.stb _ _ | exact IsI.stb _ _ | exact IsB.stb _ | exact IsR.stb _ _ | exact IsMag.stb _ _ | exact IsPos.stb | apply IsT3.stb | apply IsT2.stb | apply And.intro)
  · exact (fun _ h => by cases h)
  · refine RgAll.cons (by { (with_reducible refine RgL.mk (by rfl) ?_); intro v a w' hE hd hf; skip; clear hd hf; intro K hK; go_simp; go_at_call 9; go_split_ands; (with_reducible refine Calls.mono (examples_f _ (ht.ext (S.ext.trans hE))) ?_); rintro e w2 ⟨x, rfl, e2, hx⟩; exact hK.out _ _ e2 hx (FreshIf.no rfl) }) ?_
    refine RgAll.cons (by { (with_reducible refine RgL.mk (by rfl) ?_); intro v a w' hE hd hf; have d0 : v 0 = .bool true := hd 0 (by kernel_rfl); have ev0 := hf.val 0 33 _ d0 (by kernel_rfl) (by kernel_rfl) (by kernel_rfl); clear d0; clear hd hf; intro K hK; go_simp; exact hK.out _ _ (Ext.refl _) rfl (FreshIf.no rfl) }) ?_
    exact RgAll.nil
  intro v W1 e1 hΦ _
  replace S := S.mono e1
  have v1 : v 1 = .bool true := hΦ 1 (by decide)
  simp only [layL, Act.put, List.setIfInBounds_toArray, List.set_cons_zero, List.set_cons_succ, Nat.reduceAdd]
  rw [v1]
  clear v1
  clear hΦ
  clear e1
  refine wpList_nil ?_
  go_upto_region 4 with (fail)
  refine wp_region_rgs 3 [some 36, some 37, some 8] [IsV (.int .i32 xx), IsV (.int .i64 xx), IsV (.int .i64 xx)] [] (by decide) (by kernel_rfl) (by kernel_rfl) (by kernel_rfl) ?_ ?_ ?_ ?_
  · repeat' (first | exact trivial | exact IsV.stb _ | exact IsW.stb _ | exact IsWk.stb _ _ | exact IsI.stb _ _ | exact IsB.stb _ | exact IsR.stb _ _ | exact IsMag.stb _ _ | exact IsPos.stb | apply IsT3.stb | apply IsT2.stb | apply And.intro)
  · exact (fun _ h => by cases h)
  · refine RgAll.cons (by { (with_reducible refine RgL.mk (by rfl) ?_); intro v a w' hE hd hf; have ev0 := hf.lit 0 (.int .i32 xx) (by kernel_rfl) (by kernel_rfl); clear hd hf; intro K hK; go_simp; exact hK.out _ _ (Ext.refl _) rfl (FreshIf.no rfl) }) ?_
    refine RgAll.cons (by { (with_reducible refine RgL.mk (by rfl) ?_); intro v a w' hE hd hf; have d0 : v 0 = .int .i32 xx := hd 0 (by kernel_rfl); have ev0 := hf.val 0 36 _ d0 (by kernel_rfl) (by kernel_rfl) (by kernel_rfl); clear d0; have hx9 := HWX.out; clear hd hf; intro K hK; go_simp; exact hK.out _ _ (Ext.refl _) rfl (FreshIf.no rfl) }) ?_
    refine RgAll.cons (by { (with_reducible refine RgL.mk (by rfl) ?_); intro v a w' hE hd hf; have d0 : v 1 = .int .i64 xx := hd 1 (by kernel_rfl); have ev0 := hf.val 1 37 _ d0 (by kernel_rfl) (by kernel_rfl) (by kernel_rfl); clear d0; clear hd hf; intro K hK; go_simp; exact hK.out _ _ (Ext.refl _) rfl (FreshIf.no rfl) }) ?_
    exact RgAll.nil
  intro v W2 e1 hΦ _
  replace S := S.mono e1
  have v2 : v 2 = .int .i64 xx := hΦ 2 (by decide)
  simp only [layL, Act.put, List.setIfInBounds_toArray, List.set_cons_zero, List.set_cons_succ, Nat.reduceAdd]
  rw [v2]
  clear v2
  clear hΦ
  clear e1
  refine wpList_nil ?_
  go_upto_region 5 with (fail)
  refine wp_region_rgs 3 [some 38, some 39, some 9] [IsV (.int .i32 yy), IsV (.int .i64 yy), IsV (.int .i64 yy)] [] (by decide) (by kernel_rfl) (by kernel_rfl) (by kernel_rfl) ?_ ?_ ?_ ?_
  · repeat' (first | exact trivial | exact IsV.stb _ | exact IsW.stb _ | exact IsWk.stb _ _ | exact IsI.stb _ _ | exact IsB.stb _ | exact IsR.stb _ _ | exact IsMag.stb _ _ | exact IsPos.stb | apply IsT3.stb | apply IsT2.stb | apply And.intro)
  · exact (fun _ h => by cases h)
  · refine RgAll.cons (by { (with_reducible refine RgL.mk (by rfl) ?_); intro v a w' hE hd hf; have ev0 := hf.lit 1 (.int .i32 yy) (by kernel_rfl) (by kernel_rfl); clear hd hf; intro K hK; go_simp; exact hK.out _ _ (Ext.refl _) rfl (FreshIf.no rfl) }) ?_
    refine RgAll.cons (by { (with_reducible refine RgL.mk (by rfl) ?_); intro v a w' hE hd hf; have d0 : v 0 = .int .i32 yy := hd 0 (by kernel_rfl); have ev0 := hf.val 0 38 _ d0 (by kernel_rfl) (by kernel_rfl) (by kernel_rfl); clear d0; have hx9 := HWY.out; clear hd hf; intro K hK; go_simp; exact hK.out _ _ (Ext.refl _) rfl (FreshIf.no rfl) }) ?_
    refine RgAll.cons (by { (with_reducible refine RgL.mk (by rfl) ?_); intro v a w' hE hd hf; have d0 : v 1 = .int .i64 yy := hd 1 (by kernel_rfl); have ev0 := hf.val 1 39 _ d0 (by kernel_rfl) (by kernel_rfl) (by kernel_rfl); clear d0; clear hd hf; intro K hK; go_simp; exact hK.out _ _ (Ext.refl _) rfl (FreshIf.no rfl) }) ?_
    exact RgAll.nil
  intro v W3 e1 hΦ _
  replace S := S.mono e1
  have v2 : v 2 = .int .i64 yy := hΦ 2 (by decide)
  simp only [layL, Act.put, List.setIfInBounds_toArray, List.set_cons_zero, List.set_cons_succ, Nat.reduceAdd]
  rw [v2]
  clear v2
  clear hΦ
  clear e1
  refine wpList_nil ?_
  go_upto_region 6 with (fail)
  have hl := hid S.lt; have hw := S.ext.size
  refine wp_region_rgs 3 [some 40, some 41, some 10] [IsV (.int .i64 xx), IsI 2 xx, IsB W3] [2] (by decide) (by kernel_rfl) (by kernel_rfl) (by kernel_rfl) ?_ ?_ ?_ ?_
  · repeat' (first | exact trivial | exact IsV.stb _ | exact IsW.stb _ | exact IsWk.stb _ _ | exact IsI.stb _ _ | exact IsB.stb _ | exact IsR.stb _ _ | exact IsMag.stb _ _ | exact IsPos.stb | apply IsT3.stb | apply IsT2.stb | apply And.intro)
  · intro i hi; simp only [List.mem_cons, List.not_mem_nil, or_false] at hi; subst hi; exact IsB.box _
  · refine RgAll.cons (by { (with_reducible refine RgL.mk (by rfl) ?_); intro v a w' hE hd hf; have ev0 := hf.lit 8 (.int .i64 xx) (by kernel_rfl) (by kernel_rfl); clear hd hf; intro K hK; go_simp; exact hK.out _ _ (Ext.refl _) rfl (FreshIf.no rfl) }) ?_
    refine RgAll.cons (by { (with_reducible refine RgL.mk (by rfl) ?_); intro v a w' hE hd hf; have d0 : v 0 = .int .i64 xx := hd 0 (by kernel_rfl); have ev0 := hf.val 0 40 _ d0 (by kernel_rfl) (by kernel_rfl) (by kernel_rfl); clear d0; clear hd hf; intro K hK; go_simp; go_at_call 23; go_split_ands; (with_reducible refine Calls.mono (Of_f _ xx HX.out.1 HX.out.2) ?_); rintro e w2 ⟨x, rfl, e2, hx⟩; exact hK.out _ _ e2 hx (FreshIf.no rfl) }) ?_
    refine RgAll.cons (by { (with_reducible refine RgL.mk (by rfl) ?_); intro v a w' hE hd hf; skip; clear hd hf; intro K hK; go_simp; refine hK.out _ _ ((Ext.refl _).alloc _) ⟨_, rfl, hE.size, Bx.new _ _ _ _ _⟩ FreshIf.yes }) ?_
    exact RgAll.nil
  intro v W4 e1 hΦ _
  replace S := S.mono e1
  obtain ⟨s41, a41, n41, c41, v1, h41⟩ := (hΦ 1 (by decide) : IsI 2 xx (v 1) W4)
  obtain ⟨g10, v2, q2, b1⟩ := (hΦ 2 (by decide) : IsB W3 (v 2) W4)
  replace S := S.addN (Apart.old hl.out q2) (Nat.le_trans hw q2) b1
  clear b1
  simp only [layL, Act.put, List.setIfInBounds_toArray, List.set_cons_zero, List.set_cons_succ, Nat.reduceAdd]
  rw [v1, v2]
  clear v1 v2
  clear hΦ
  clear hl hw
  clear e1
  obtain ⟨s8, a8, n8, c8, b8, _⟩ := S.at 0 (g10) (IsI 0 0) rfl; have F1 := b8.c0; have F2 := b8.c1; have F3 := b8.f0; have F4 := b8.f1
  refine wpList_step fun K hK => ?_; go_simp; refine hK _ _ ?_; clear hK K
  clear F1 F2 F3 F4 b8
  obtain ⟨W5, hW, S2, G2, _⟩ := S.put 0 (g10) (IsI 0 0) (IsI 2 xx) rfl s41 a41 n41 c41 (IsI.gstb _ _) ⟨_, _, _, _, rfl, h41⟩
  rw [← hW]; clear hW S
  have S : St w W5 [(g10, IsI 2 xx), (w.heap.size, IsR s3 x3)] := S2; clear S2 G2
  clear h41
  refine wpList_nil ?_
  go_upto_region 7 with (fail)
  have hl := hid S.lt; have hw := S.ext.size
  refine wp_region_rgs 3 [some 42, some 43, some 11] [IsV (.int .i64 yy), IsI 2 yy, IsB W5] [2] (by decide) (by kernel_rfl) (by kernel_rfl) (by kernel_rfl) ?_ ?_ ?_ ?_
  · repeat' (first | exact trivial | exact IsV.stb _ | exact IsW.stb _ | exact IsWk.stb _ _ | exact IsI.stb _ _ | exact IsB.stb _ | exact IsR.stb _ _ | exact IsMag.stb _ _ | exact IsPos.stb | apply IsT3.stb | apply IsT2.stb | apply And.intro)
  · intro i hi; simp only [List.mem_cons, List.not_mem_nil, or_false] at hi; subst hi; exact IsB.box _
  · refine RgAll.cons (by { (with_reducible refine RgL.mk (by rfl) ?_); intro v a w' hE hd hf; have ev0 := hf.lit 9 (.int .i64 yy) (by kernel_rfl) (by kernel_rfl); clear hd hf; intro K hK; go_simp; exact hK.out _ _ (Ext.refl _) rfl (FreshIf.no rfl) }) ?_
    refine RgAll.cons (by { (with_reducible refine RgL.mk (by rfl) ?_); intro v a w' hE hd hf; have d0 : v 0 = .int .i64 yy := hd 0 (by kernel_rfl); have ev0 := hf.val 0 42 _ d0 (by kernel_rfl) (by kernel_rfl) (by kernel_rfl); clear d0; clear hd hf; intro K hK; go_simp; go_at_call 23; go_split_ands; (with_reducible refine Calls.mono (Of_f _ yy HY.out.1 HY.out.2) ?_); rintro e w2 ⟨x, rfl, e2, hx⟩; exact hK.out _ _ e2 hx (FreshIf.no rfl) }) ?_
    refine RgAll.cons (by { (with_reducible refine RgL.mk (by rfl) ?_); intro v a w' hE hd hf; skip; clear hd hf; intro K hK; go_simp; refine hK.out _ _ ((Ext.refl _).alloc _) ⟨_, rfl, hE.size, Bx.new _ _ _ _ _⟩ FreshIf.yes }) ?_
    exact RgAll.nil
  intro v W6 e1 hΦ _
  replace S := S.mono e1
  obtain ⟨s43, a43, n43, c43, v1, h43⟩ := (hΦ 1 (by decide) : IsI 2 yy (v 1) W6)
  obtain ⟨g11, v2, q4, b3⟩ := (hΦ 2 (by decide) : IsB W5 (v 2) W6)
  replace S := S.addN (Apart.old hl.out q4) (Nat.le_trans hw q4) b3
  clear b3
  simp only [layL, Act.put, List.setIfInBounds_toArray, List.set_cons_zero, List.set_cons_succ, Nat.reduceAdd]
  rw [v1, v2]
  clear v1 v2
  clear hΦ
  clear hl hw
  clear e1
  obtain ⟨s8, a8, n8, c8, b8, _⟩ := S.at 0 (g11) (IsI 0 0) rfl; have F1 := b8.c0; have F2 := b8.c1; have F3 := b8.f0; have F4 := b8.f1
  refine wpList_step fun K hK => ?_; go_simp; refine hK _ _ ?_; clear hK K
  clear F1 F2 F3 F4 b8
  obtain ⟨W7, hW, S2, G2, _⟩ := S.put 0 (g11) (IsI 0 0) (IsI 2 yy) rfl s43 a43 n43 c43 (IsI.gstb _ _) ⟨_, _, _, _, rfl, h43⟩
  rw [← hW]; clear hW S
  have S : St w W7 [(g11, IsI 2 yy), (g10, IsI 2 xx), (w.heap.size, IsR s3 x3)] := S2; clear S2 G2
  clear h43
  refine wpList_nil ?_
  go_upto_region 8 with (fail)
  refine wp_region_rgs 9 [some 45, some 46, some 47, some 48, some 44, some 49, some 50, some 12, some 13] [IsI 2 xx, IsI 2 yy, IsI 3 (xx + yy), IsT2 (IsV (.int .i64 (xx + yy))) (IsV (.bool true)), IsT2 (IsV (.int .i64 (xx + yy))) (IsV (.bool true)), IsV (.int .i64 (xx + yy)), IsV (.bool true), IsV (.int .i64 (xx + yy)), IsV (.bool true)] [] (by decide) (by kernel_rfl) (by kernel_rfl) (by kernel_rfl) ?_ ?_ ?_ ?_
  · repeat' (first | exact trivial | exact IsV.stb _ | exact IsW.stb _ | exact IsWk.stb _ _ | exact IsI.stb _ _ | exact IsB.stb _ | exact IsR.stb _ _ | exact IsMag.stb _ _ | exact IsPos.stb | apply IsT3.stb | apply IsT2.stb | apply And.intro)
  · exact (fun _ h => by cases h)
  · refine RgAll.cons (by { (with_reducible refine RgL.mk (by rfl) ?_); intro v a w' hE hd hf; have ev0 := hf.lit 10 (.pointer (some ⟨g10, 0, none⟩)) (by kernel_rfl) (by kernel_rfl); obtain ⟨s8, a8, n8, c8, b8, h8⟩ := (S.mono hE).at 1 (g10) (IsI 2 xx) rfl; have L0 := b8.c0; have L1 := b8.c1; clear hd hf; intro K hK; go_simp; exact hK.out _ _ (Ext.refl _) h8 (FreshIf.no rfl) }) ?_
    refine RgAll.cons (by { (with_reducible refine RgL.mk (by rfl) ?_); intro v a w' hE hd hf; have ev0 := hf.lit 11 (.pointer (some ⟨g11, 0, none⟩)) (by kernel_rfl) (by kernel_rfl); obtain ⟨s8, a8, n8, c8, b8, h8⟩ := (S.mono hE).at 0 (g11) (IsI 2 yy) rfl; have L0 := b8.c0; have L1 := b8.c1; clear hd hf; intro K hK; go_simp; exact hK.out _ _ (Ext.refl _) h8 (FreshIf.no rfl) }) ?_
    refine RgAll.cons (by { (with_reducible refine RgL.mk (by rfl) ?_); intro v a w' hE hd hf; have d0 : (IsI 2 xx) (v 0) w' := hd 0 (by kernel_rfl); have ev0 := hf.val 0 45 _ rfl (by kernel_rfl) (by kernel_rfl) (by kernel_rfl); have d1 : (IsI 2 yy) (v 1) w' := hd 1 (by kernel_rfl); have ev1 := hf.val 1 46 _ rfl (by kernel_rfl) (by kernel_rfl) (by kernel_rfl); clear hd hf; intro K hK; go_simp; go_at_call 12; go_split_ands; (with_reducible refine Calls.mono (Add_f d0 d1 (by decide) (by decide)) ?_); rintro e w2 ⟨x, rfl, e2, hx⟩; exact hK.out _ _ e2 hx (FreshIf.no rfl) }) ?_
    refine RgAll.cons (by { (with_reducible refine RgL.mk (by rfl) ?_); intro v a w' hE hd hf; have d0 : (IsI 3 (xx + yy)) (v 2) w' := hd 2 (by kernel_rfl); have ev0 := hf.val 2 47 _ rfl (by kernel_rfl) (by kernel_rfl) (by kernel_rfl); clear hd hf; intro K hK; go_simp; go_at_call 32; go_split_ands; (with_reducible refine Calls.mono (Low_t d0 HSR.out.1 HSR.out.2) ?_); rintro e w2 ⟨x, rfl, e2, hx⟩; exact hK.out _ _ e2 hx (FreshIf.no rfl) }) ?_
    refine RgAll.cons (by { (with_reducible refine RgL.mk (by rfl) ?_); intro v a w' hE hd hf; have d0 : (IsT2 (IsV (.int .i64 (xx + yy))) (IsV (.bool true))) (v 3) w' := hd 3 (by kernel_rfl); have ev0 := hf.val 3 48 _ rfl (by kernel_rfl) (by kernel_rfl) (by kernel_rfl); clear hd hf; intro K hK; go_simp; exact hK.out _ _ (Ext.refl _) d0 (FreshIf.no rfl) }) ?_
    refine RgAll.cons (by { (with_reducible refine RgL.mk (by rfl) ?_); intro v a w' hE hd hf; have d0 : (IsT2 (IsV (.int .i64 (xx + yy))) (IsV (.bool true))) (v 4) w' := hd 4 (by kernel_rfl); obtain ⟨x0, x1, z0, y0, y1⟩ := d0; have ev0 := hf.val 4 44 _ z0 (by kernel_rfl) (by kernel_rfl) (by kernel_rfl); clear z0; clear hd hf; intro K hK; go_simp; exact hK.out _ _ (Ext.refl _) y0 (FreshIf.no rfl) }) ?_
    refine RgAll.cons (by { (with_reducible refine RgL.mk (by rfl) ?_); intro v a w' hE hd hf; have d0 : (IsT2 (IsV (.int .i64 (xx + yy))) (IsV (.bool true))) (v 4) w' := hd 4 (by kernel_rfl); obtain ⟨x0, x1, z0, y0, y1⟩ := d0; have ev0 := hf.val 4 44 _ z0 (by kernel_rfl) (by kernel_rfl) (by kernel_rfl); clear z0; clear hd hf; intro K hK; go_simp; exact hK.out _ _ (Ext.refl _) y1 (FreshIf.no rfl) }) ?_
    refine RgAll.cons (by { (with_reducible refine RgL.mk (by rfl) ?_); intro v a w' hE hd hf; have d0 : v 5 = .int .i64 (xx + yy) := hd 5 (by kernel_rfl); have ev0 := hf.val 5 49 _ d0 (by kernel_rfl) (by kernel_rfl) (by kernel_rfl); clear d0; clear hd hf; intro K hK; go_simp; exact hK.out _ _ (Ext.refl _) rfl (FreshIf.no rfl) }) ?_
    refine RgAll.cons (by { (with_reducible refine RgL.mk (by rfl) ?_); intro v a w' hE hd hf; have d0 : v 6 = .bool true := hd 6 (by kernel_rfl); have ev0 := hf.val 6 50 _ d0 (by kernel_rfl) (by kernel_rfl) (by kernel_rfl); clear d0; clear hd hf; intro K hK; go_simp; exact hK.out _ _ (Ext.refl _) rfl (FreshIf.no rfl) }) ?_
    exact RgAll.nil
  intro v W8 e1 hΦ _
  replace S := S.mono e1
  have v7 : v 7 = .int .i64 (xx + yy) := hΦ 7 (by decide)
  have v8 : v 8 = .bool true := hΦ 8 (by decide)
  simp only [layL, Act.put, List.setIfInBounds_toArray, List.set_cons_zero, List.set_cons_succ, Nat.reduceAdd]
  rw [v7, v8]
  clear v7 v8
  clear hΦ
  clear e1
  refine wpList_nil ?_
  go_upto_region 9 with (fail)
  refine wp_region_rgs 9 [some 52, some 53, some 54, some 55, some 51, some 56, some 57, some 14, some 15] [IsI 2 xx, IsI 2 yy, IsI 4 (xx * yy), IsT2 (IsV (.int .i64 (xx * yy))) (IsV (.bool true)), IsT2 (IsV (.int .i64 (xx * yy))) (IsV (.bool true)), IsV (.int .i64 (xx * yy)), IsV (.bool true), IsV (.int .i64 (xx * yy)), IsV (.bool true)] [] (by decide) (by kernel_rfl) (by kernel_rfl) (by kernel_rfl) ?_ ?_ ?_ ?_
  · repeat' (first | exact trivial | exact IsV.stb _ | exact IsW.stb _ | exact IsWk.stb _ _ | exact IsI.stb _ _ | exact IsB.stb _ | exact IsR.stb _ _ | exact IsMag.stb _ _ | exact IsPos.stb | apply IsT3.stb | apply IsT2.stb | apply And.intro)
  · exact (fun _ h => by cases h)
  · refine RgAll.cons (by { (with_reducible refine RgL.mk (by rfl) ?_); intro v a w' hE hd hf; have ev0 := hf.lit 10 (.pointer (some ⟨g10, 0, none⟩)) (by kernel_rfl) (by kernel_rfl); obtain ⟨s8, a8, n8, c8, b8, h8⟩ := (S.mono hE).at 1 (g10) (IsI 2 xx) rfl; have L0 := b8.c0; have L1 := b8.c1; clear hd hf; intro K hK; go_simp; exact hK.out _ _ (Ext.refl _) h8 (FreshIf.no rfl) }) ?_
    refine RgAll.cons (by { (with_reducible refine RgL.mk (by rfl) ?_); intro v a w' hE hd hf; have ev0 := hf.lit 11 (.pointer (some ⟨g11, 0, none⟩)) (by kernel_rfl) (by kernel_rfl); obtain ⟨s8, a8, n8, c8, b8, h8⟩ := (S.mono hE).at 0 (g11) (IsI 2 yy) rfl; have L0 := b8.c0; have L1 := b8.c1; clear hd hf; intro K hK; go_simp; exact hK.out _ _ (Ext.refl _) h8 (FreshIf.no rfl) }) ?_
    refine RgAll.cons (by { (with_reducible refine RgL.mk (by rfl) ?_); intro v a w' hE hd hf; have d0 : (IsI 2 xx) (v 0) w' := hd 0 (by kernel_rfl); have ev0 := hf.val 0 52 _ rfl (by kernel_rfl) (by kernel_rfl) (by kernel_rfl); have d1 : (IsI 2 yy) (v 1) w' := hd 1 (by kernel_rfl); have ev1 := hf.val 1 53 _ rfl (by kernel_rfl) (by kernel_rfl) (by kernel_rfl); clear hd hf; intro K hK; go_simp; go_at_call 13; go_split_ands; (with_reducible refine Calls.mono (Mul_f d0 d1 (by decide) (by decide)) ?_); rintro e w2 ⟨x, rfl, e2, hx⟩; exact hK.out _ _ e2 hx (FreshIf.no rfl) }) ?_
    refine RgAll.cons (by { (with_reducible refine RgL.mk (by rfl) ?_); intro v a w' hE hd hf; have d0 : (IsI 4 (xx * yy)) (v 2) w' := hd 2 (by kernel_rfl); have ev0 := hf.val 2 54 _ rfl (by kernel_rfl) (by kernel_rfl) (by kernel_rfl); clear hd hf; intro K hK; go_simp; go_at_call 32; go_split_ands; (with_reducible refine Calls.mono (Low_t d0 HPR.out.1 HPR.out.2) ?_); rintro e w2 ⟨x, rfl, e2, hx⟩; exact hK.out _ _ e2 hx (FreshIf.no rfl) }) ?_
    refine RgAll.cons (by { (with_reducible refine RgL.mk (by rfl) ?_); intro v a w' hE hd hf; have d0 : (IsT2 (IsV (.int .i64 (xx * yy))) (IsV (.bool true))) (v 3) w' := hd 3 (by kernel_rfl); have ev0 := hf.val 3 55 _ rfl (by kernel_rfl) (by kernel_rfl) (by kernel_rfl); clear hd hf; intro K hK; go_simp; exact hK.out _ _ (Ext.refl _) d0 (FreshIf.no rfl) }) ?_
    refine RgAll.cons (by { (with_reducible refine RgL.mk (by rfl) ?_); intro v a w' hE hd hf; have d0 : (IsT2 (IsV (.int .i64 (xx * yy))) (IsV (.bool true))) (v 4) w' := hd 4 (by kernel_rfl); obtain ⟨x0, x1, z0, y0, y1⟩ := d0; have ev0 := hf.val 4 51 _ z0 (by kernel_rfl) (by kernel_rfl) (by kernel_rfl); clear z0; clear hd hf; intro K hK; go_simp; exact hK.out _ _ (Ext.refl _) y0 (FreshIf.no rfl) }) ?_
    refine RgAll.cons (by { (with_reducible refine RgL.mk (by rfl) ?_); intro v a w' hE hd hf; have d0 : (IsT2 (IsV (.int .i64 (xx * yy))) (IsV (.bool true))) (v 4) w' := hd 4 (by kernel_rfl); obtain ⟨x0, x1, z0, y0, y1⟩ := d0; have ev0 := hf.val 4 51 _ z0 (by kernel_rfl) (by kernel_rfl) (by kernel_rfl); clear z0; clear hd hf; intro K hK; go_simp; exact hK.out _ _ (Ext.refl _) y1 (FreshIf.no rfl) }) ?_
    refine RgAll.cons (by { (with_reducible refine RgL.mk (by rfl) ?_); intro v a w' hE hd hf; have d0 : v 5 = .int .i64 (xx * yy) := hd 5 (by kernel_rfl); have ev0 := hf.val 5 56 _ d0 (by kernel_rfl) (by kernel_rfl) (by kernel_rfl); clear d0; clear hd hf; intro K hK; go_simp; exact hK.out _ _ (Ext.refl _) rfl (FreshIf.no rfl) }) ?_
    refine RgAll.cons (by { (with_reducible refine RgL.mk (by rfl) ?_); intro v a w' hE hd hf; have d0 : v 6 = .bool true := hd 6 (by kernel_rfl); have ev0 := hf.val 6 57 _ d0 (by kernel_rfl) (by kernel_rfl) (by kernel_rfl); clear d0; clear hd hf; intro K hK; go_simp; exact hK.out _ _ (Ext.refl _) rfl (FreshIf.no rfl) }) ?_
    exact RgAll.nil
  intro v W9 e1 hΦ _
  replace S := S.mono e1
  have v7 : v 7 = .int .i64 (xx * yy) := hΦ 7 (by decide)
  have v8 : v 8 = .bool true := hΦ 8 (by decide)
  simp only [layL, Act.put, List.setIfInBounds_toArray, List.set_cons_zero, List.set_cons_succ, Nat.reduceAdd]
  rw [v7, v8]
  clear v7 v8
  clear hΦ
  clear e1
  refine wpList_nil ?_
  go_upto_region 10 with (fail)
  refine wp_region_rgs 40 (some 58 :: some 59 :: some 60 :: some 61 :: some 62 :: some 63 :: some 64 :: some 65 :: some 66 :: some 67 :: some 68 :: some 69 :: some 70 :: some 71 :: some 72 :: some 73 :: some 74 :: some 75 :: some 76 :: some 77 :: some 78 :: some 79 :: some 80 :: some 81 :: some 82 :: some 83 :: some 84 :: some 85 :: some 86 :: some 87 :: some 88 :: some 89 :: some 90 :: some 91 :: some 92 :: some 93 :: some 94 :: some 95 :: some 96 :: some 97 :: []) (IsV (.bool true) :: IsV (.bool false) :: IsV (.bool false) :: IsV (.bool true) :: IsV (.bool false) :: IsV (.bool false) :: IsV (.bool false) :: IsV (.int .i64 (xx + yy)) :: IsV (.int .i64 xx) :: IsV (.int .i64 yy) :: IsV (.int .i64 (xx + yy)) :: IsV (.bool false) :: IsV (.bool false) :: IsV (.bool false) :: IsV (.int .i64 (xx * yy)) :: IsV (.int .i64 xx) :: IsV (.int .i64 yy) :: IsV (.int .i64 (xx * yy)) :: IsV (.bool false) :: IsV (.bool false) :: IsV (.bool false) :: IsI 2 xx :: IsI 2 yy :: IsV (.int .i64 cc) :: IsV (.bool b1) :: IsV (.int .i64 xx) :: IsV (.int .i64 yy) :: IsV (.bool b1) :: IsV (.bool false) :: IsV (.bool false) :: IsV (.bool false) :: IsI 2 xx :: IsI 2 yy :: IsV (.int .i64 cc) :: IsV (.bool b2) :: IsV (.int .i64 xx) :: IsV (.int .i64 yy) :: IsV (.bool b2) :: IsV (.bool false) :: IsV (.bool false) :: []) [] (by decide) (by kernel_rfl) (by kernel_rfl) (by kernel_rfl) ?_ ?_ ?_ ?_
  · repeat' (first | exact trivial | exact IsV.stb _ | exact IsW.stb _ | exact IsWk.stb _ _ | exact IsI.stb _ _ | exact IsB.stb _ | exact IsR.stb _ _ | exact IsMag.stb _ _ | exact IsPos.stb | apply IsT3.stb | apply IsT2.stb | apply And.intro)
  · exact (fun _ h => by cases h)
  · refine RgAll.cons (by { (with_reducible refine RgL.mk (by rfl) ?_); intro v a w' hE hd hf; have ev0 := hf.lit 13 (.bool true) (by kernel_rfl) (by kernel_rfl); clear hd hf; intro K hK; go_simp; exact hK.out _ _ (Ext.refl _) rfl (FreshIf.no rfl) }) ?_
    refine RgAll.cons (by { (with_reducible refine RgL.mk (by rfl) ?_); intro v a w' hE hd hf; have d0 : v 0 = .bool true := hd 0 (by kernel_rfl); have ev0 := hf.val 0 58 _ d0 (by kernel_rfl) (by kernel_rfl) (by kernel_rfl); clear d0; clear hd hf; intro K hK; go_simp; exact hK.out _ _ (Ext.refl _) rfl (FreshIf.no rfl) }) ?_
    refine RgAll.cons (by { (with_reducible refine RgL.mk (by rfl) ?_); intro v a w' hE hd hf; have d0 : v 1 = .bool false := hd 1 (by kernel_rfl); have ev0 := hf.val 1 59 _ d0 (by kernel_rfl) (by kernel_rfl) (by kernel_rfl); clear d0; clear hd hf; intro K hK; go_simp; exact hK.out _ _ (Ext.refl _) rfl (FreshIf.no rfl) }) ?_
    refine RgAll.cons (by { (with_reducible refine RgL.mkG 2 60 false (by rfl) (by kernel_rfl) (by kernel_rfl) (by kernel_rfl) (by kernel_rfl) (by kernel_rfl) ?_ ?_); (focus (intro _ _ h; exact h)); intro v a w' hE hd hf; have ev0 := hf.lit 15 (.bool true) (by kernel_rfl) (by kernel_rfl); clear hd hf; intro K hK; go_simp; exact hK.out _ _ (Ext.refl _) rfl (FreshIf.no rfl) }) ?_
    refine RgAll.cons (by { (with_reducible refine RgL.mkG 2 60 false (by rfl) (by kernel_rfl) (by kernel_rfl) (by kernel_rfl) (by kernel_rfl) (by kernel_rfl) ?_ ?_); (focus (intro _ _ h; exact h)); intro v a w' hE hd hf; have d0 : v 3 = .bool true := hd 3 (by kernel_rfl); have ev0 := hf.val 3 61 _ d0 (by kernel_rfl) (by kernel_rfl) (by kernel_rfl); clear d0; clear hd hf; intro K hK; go_simp; exact hK.out _ _ (Ext.refl _) rfl (FreshIf.no rfl) }) ?_
    refine RgAll.cons (by { (with_reducible refine RgL.mk (by rfl) ?_); intro v a w' hE hd hf; have d0 : v 2 = .bool false := hd 2 (by kernel_rfl); have ev0 := hf.val 2 60 _ d0 (by kernel_rfl) (by kernel_rfl) (by kernel_rfl); clear d0; have d1 : v 4 = .bool false := hd 4 (by kernel_rfl); have ev1 := hf.val 4 62 _ d1 (by kernel_rfl) (by kernel_rfl) (by kernel_rfl); clear d1; clear hd hf; intro K hK; go_simp; exact hK.out _ _ (Ext.refl _) rfl (FreshIf.no rfl) }) ?_
    refine RgAll.cons (by { (with_reducible refine RgL.mk (by rfl) ?_); intro v a w' hE hd hf; have d0 : v 5 = .bool false := hd 5 (by kernel_rfl); have ev0 := hf.val 5 63 _ d0 (by kernel_rfl) (by kernel_rfl) (by kernel_rfl); clear d0; clear hd hf; intro K hK; go_simp; exact hK.out _ _ (Ext.refl _) rfl (FreshIf.no rfl) }) ?_
    refine RgAll.cons (by { (with_reducible refine RgL.mkG 6 64 false (by rfl) (by kernel_rfl) (by kernel_rfl) (by kernel_rfl) (by kernel_rfl) (by kernel_rfl) ?_ ?_); (focus (intro _ _ h; exact h)); intro v a w' hE hd hf; have ev0 := hf.lit 12 (.int .i64 (xx + yy)) (by kernel_rfl) (by kernel_rfl); clear hd hf; intro K hK; go_simp; exact hK.out _ _ (Ext.refl _) rfl (FreshIf.no rfl) }) ?_
    refine RgAll.cons (by { (with_reducible refine RgL.mkG 6 64 false (by rfl) (by kernel_rfl) (by kernel_rfl) (by kernel_rfl) (by kernel_rfl) (by kernel_rfl) ?_ ?_); (focus (intro _ _ h; exact h)); intro v a w' hE hd hf; have ev0 := hf.lit 8 (.int .i64 xx) (by kernel_rfl) (by kernel_rfl); clear hd hf; intro K hK; go_simp; exact hK.out _ _ (Ext.refl _) rfl (FreshIf.no rfl) }) ?_
    refine RgAll.cons (by { (with_reducible refine RgL.mkG 6 64 false (by rfl) (by kernel_rfl) (by kernel_rfl) (by kernel_rfl) (by kernel_rfl) (by kernel_rfl) ?_ ?_); (focus (intro _ _ h; exact h)); intro v a w' hE hd hf; have ev0 := hf.lit 9 (.int .i64 yy) (by kernel_rfl) (by kernel_rfl); clear hd hf; intro K hK; go_simp; exact hK.out _ _ (Ext.refl _) rfl (FreshIf.no rfl) }) ?_
    refine RgAll.cons (by { (with_reducible refine RgL.mkG 6 64 false (by rfl) (by kernel_rfl) (by kernel_rfl) (by kernel_rfl) (by kernel_rfl) (by kernel_rfl) ?_ ?_); (focus (intro _ _ h; exact h)); intro v a w' hE hd hf; have d0 : v 8 = .int .i64 xx := hd 8 (by kernel_rfl); have ev0 := hf.val 8 66 _ d0 (by kernel_rfl) (by kernel_rfl) (by kernel_rfl); clear d0; have d1 : v 9 = .int .i64 yy := hd 9 (by kernel_rfl); have ev1 := hf.val 9 67 _ d1 (by kernel_rfl) (by kernel_rfl) (by kernel_rfl); clear d1; have hx9 := HWS.out; clear hd hf; intro K hK; go_simp; exact hK.out _ _ (Ext.refl _) rfl (FreshIf.no rfl) }) ?_
    refine RgAll.cons (by { (with_reducible refine RgL.mkG 6 64 false (by rfl) (by kernel_rfl) (by kernel_rfl) (by kernel_rfl) (by kernel_rfl) (by kernel_rfl) ?_ ?_); (focus (intro _ _ h; exact h)); intro v a w' hE hd hf; have d0 : v 7 = .int .i64 (xx + yy) := hd 7 (by kernel_rfl); have ev0 := hf.val 7 65 _ d0 (by kernel_rfl) (by kernel_rfl) (by kernel_rfl); clear d0; have d1 : v 10 = .int .i64 (xx + yy) := hd 10 (by kernel_rfl); have ev1 := hf.val 10 68 _ d1 (by kernel_rfl) (by kernel_rfl) (by kernel_rfl); clear d1; clear hd hf; intro K hK; go_simp; exact hK.out _ _ (Ext.refl _) rfl (FreshIf.no rfl) }) ?_
    refine RgAll.cons (by { (with_reducible refine RgL.mk (by rfl) ?_); intro v a w' hE hd hf; have d0 : v 6 = .bool false := hd 6 (by kernel_rfl); have ev0 := hf.val 6 64 _ d0 (by kernel_rfl) (by kernel_rfl) (by kernel_rfl); clear d0; have d1 : v 11 = .bool false := hd 11 (by kernel_rfl); have ev1 := hf.val 11 69 _ d1 (by kernel_rfl) (by kernel_rfl) (by kernel_rfl); clear d1; clear hd hf; intro K hK; go_simp; exact hK.out _ _ (Ext.refl _) rfl (FreshIf.no rfl) }) ?_
    refine RgAll.cons (by { (with_reducible refine RgL.mk (by rfl) ?_); intro v a w' hE hd hf; have d0 : v 12 = .bool false := hd 12 (by kernel_rfl); have ev0 := hf.val 12 70 _ d0 (by kernel_rfl) (by kernel_rfl) (by kernel_rfl); clear d0; clear hd hf; intro K hK; go_simp; exact hK.out _ _ (Ext.refl _) rfl (FreshIf.no rfl) }) ?_
    refine RgAll.cons (by { (with_reducible refine RgL.mkG 13 71 false (by rfl) (by kernel_rfl) (by kernel_rfl) (by kernel_rfl) (by kernel_rfl) (by kernel_rfl) ?_ ?_); (focus (intro _ _ h; exact h)); intro v a w' hE hd hf; have ev0 := hf.lit 14 (.int .i64 (xx * yy)) (by kernel_rfl) (by kernel_rfl); clear hd hf; intro K hK; go_simp; exact hK.out _ _ (Ext.refl _) rfl (FreshIf.no rfl) }) ?_
    refine RgAll.cons (by { (with_reducible refine RgL.mkG 13 71 false (by rfl) (by kernel_rfl) (by kernel_rfl) (by kernel_rfl) (by kernel_rfl) (by kernel_rfl) ?_ ?_); (focus (intro _ _ h; exact h)); intro v a w' hE hd hf; have ev0 := hf.lit 8 (.int .i64 xx) (by kernel_rfl) (by kernel_rfl); clear hd hf; intro K hK; go_simp; exact hK.out _ _ (Ext.refl _) rfl (FreshIf.no rfl) }) ?_
    refine RgAll.cons (by { (with_reducible refine RgL.mkG 13 71 false (by rfl) (by kernel_rfl) (by kernel_rfl) (by kernel_rfl) (by kernel_rfl) (by kernel_rfl) ?_ ?_); (focus (intro _ _ h; exact h)); intro v a w' hE hd hf; have ev0 := hf.lit 9 (.int .i64 yy) (by kernel_rfl) (by kernel_rfl); clear hd hf; intro K hK; go_simp; exact hK.out _ _ (Ext.refl _) rfl (FreshIf.no rfl) }) ?_
    refine RgAll.cons (by { (with_reducible refine RgL.mkG 13 71 false (by rfl) (by kernel_rfl) (by kernel_rfl) (by kernel_rfl) (by kernel_rfl) (by kernel_rfl) ?_ ?_); (focus (intro _ _ h; exact h)); intro v a w' hE hd hf; have d0 : v 15 = .int .i64 xx := hd 15 (by kernel_rfl); have ev0 := hf.val 15 73 _ d0 (by kernel_rfl) (by kernel_rfl) (by kernel_rfl); clear d0; have d1 : v 16 = .int .i64 yy := hd 16 (by kernel_rfl); have ev1 := hf.val 16 74 _ d1 (by kernel_rfl) (by kernel_rfl) (by kernel_rfl); clear d1; have hx9 := HWP.out; clear hd hf; intro K hK; go_simp; exact hK.out _ _ (Ext.refl _) rfl (FreshIf.no rfl) }) ?_
    refine RgAll.cons (by { (with_reducible refine RgL.mkG 13 71 false (by rfl) (by kernel_rfl) (by kernel_rfl) (by kernel_rfl) (by kernel_rfl) (by kernel_rfl) ?_ ?_); (focus (intro _ _ h; exact h)); intro v a w' hE hd hf; have d0 : v 14 = .int .i64 (xx * yy) := hd 14 (by kernel_rfl); have ev0 := hf.val 14 72 _ d0 (by kernel_rfl) (by kernel_rfl) (by kernel_rfl); clear d0; have d1 : v 17 = .int .i64 (xx * yy) := hd 17 (by kernel_rfl); have ev1 := hf.val 17 75 _ d1 (by kernel_rfl) (by kernel_rfl) (by kernel_rfl); clear d1; clear hd hf; intro K hK; go_simp; exact hK.out _ _ (Ext.refl _) rfl (FreshIf.no rfl) }) ?_
    refine RgAll.cons (by { (with_reducible refine RgL.mk (by rfl) ?_); intro v a w' hE hd hf; have d0 : v 13 = .bool false := hd 13 (by kernel_rfl); have ev0 := hf.val 13 71 _ d0 (by kernel_rfl) (by kernel_rfl) (by kernel_rfl); clear d0; have d1 : v 18 = .bool false := hd 18 (by kernel_rfl); have ev1 := hf.val 18 76 _ d1 (by kernel_rfl) (by kernel_rfl) (by kernel_rfl); clear d1; clear hd hf; intro K hK; go_simp; exact hK.out _ _ (Ext.refl _) rfl (FreshIf.no rfl) }) ?_
    refine RgAll.cons (by { (with_reducible refine RgL.mk (by rfl) ?_); intro v a w' hE hd hf; have d0 : v 19 = .bool false := hd 19 (by kernel_rfl); have ev0 := hf.val 19 77 _ d0 (by kernel_rfl) (by kernel_rfl) (by kernel_rfl); clear d0; clear hd hf; intro K hK; go_simp; exact hK.out _ _ (Ext.refl _) rfl (FreshIf.no rfl) }) ?_
    refine RgAll.cons (by { (with_reducible refine RgL.mkG 20 78 false (by rfl) (by kernel_rfl) (by kernel_rfl) (by kernel_rfl) (by kernel_rfl) (by kernel_rfl) ?_ ?_); (focus (intro _ _ h; exact h)); intro v a w' hE hd hf; have ev0 := hf.lit 10 (.pointer (some ⟨g10, 0, none⟩)) (by kernel_rfl) (by kernel_rfl); obtain ⟨s8, a8, n8, c8, b8, h8⟩ := (S.mono hE).at 1 (g10) (IsI 2 xx) rfl; have L0 := b8.c0; have L1 := b8.c1; clear hd hf; intro K hK; go_simp; exact hK.out _ _ (Ext.refl _) h8 (FreshIf.no rfl) }) ?_
    refine RgAll.cons (by { (with_reducible refine RgL.mkG 20 78 false (by rfl) (by kernel_rfl) (by kernel_rfl) (by kernel_rfl) (by kernel_rfl) (by kernel_rfl) ?_ ?_); (focus (intro _ _ h; exact h)); intro v a w' hE hd hf; have ev0 := hf.lit 11 (.pointer (some ⟨g11, 0, none⟩)) (by kernel_rfl) (by kernel_rfl); obtain ⟨s8, a8, n8, c8, b8, h8⟩ := (S.mono hE).at 0 (g11) (IsI 2 yy) rfl; have L0 := b8.c0; have L1 := b8.c1; clear hd hf; intro K hK; go_simp; exact hK.out _ _ (Ext.refl _) h8 (FreshIf.no rfl) }) ?_
    refine RgAll.cons (by { (with_reducible refine RgL.mkG 20 78 false (by rfl) (by kernel_rfl) (by kernel_rfl) (by kernel_rfl) (by kernel_rfl) (by kernel_rfl) ?_ ?_); (focus (intro _ _ h; exact h)); intro v a w' hE hd hf; have d0 : (IsI 2 xx) (v 21) w' := hd 21 (by kernel_rfl); have ev0 := hf.val 21 79 _ rfl (by kernel_rfl) (by kernel_rfl) (by kernel_rfl); have d1 : (IsI 2 yy) (v 22) w' := hd 22 (by kernel_rfl); have ev1 := hf.val 22 80 _ rfl (by kernel_rfl) (by kernel_rfl) (by kernel_rfl); clear hd hf; intro K hK; go_simp; go_at_call 16; go_split_ands; (with_reducible refine Calls.mono (Calls.mono (Cmp_f d0 d1 (by decide) (by decide)) fun _ _ h => h.int (HC.out)) ?_); rintro e w2 ⟨x, rfl, e2, hx⟩; exact hK.out _ _ e2 hx (FreshIf.no rfl) }) ?_
    refine RgAll.cons (by { (with_reducible refine RgL.mkG 20 78 false (by rfl) (by kernel_rfl) (by kernel_rfl) (by kernel_rfl) (by kernel_rfl) (by kernel_rfl) ?_ ?_); (focus (intro _ _ h; exact h)); intro v a w' hE hd hf; have d0 : v 23 = .int .i64 cc := hd 23 (by kernel_rfl); have ev0 := hf.val 23 81 _ d0 (by kernel_rfl) (by kernel_rfl) (by kernel_rfl); clear d0; have hx9 := HB.out.1; clear hd hf; intro K hK; go_simp; exact hK.out _ _ (Ext.refl _) rfl (FreshIf.no rfl) }) ?_
    refine RgAll.cons (by { (with_reducible refine RgL.mkG 20 78 false (by rfl) (by kernel_rfl) (by kernel_rfl) (by kernel_rfl) (by kernel_rfl) (by kernel_rfl) ?_ ?_); (focus (intro _ _ h; exact h)); intro v a w' hE hd hf; have ev0 := hf.lit 8 (.int .i64 xx) (by kernel_rfl) (by kernel_rfl); clear hd hf; intro K hK; go_simp; exact hK.out _ _ (Ext.refl _) rfl (FreshIf.no rfl) }) ?_
    refine RgAll.cons (by { (with_reducible refine RgL.mkG 20 78 false (by rfl) (by kernel_rfl) (by kernel_rfl) (by kernel_rfl) (by kernel_rfl) (by kernel_rfl) ?_ ?_); (focus (intro _ _ h; exact h)); intro v a w' hE hd hf; have ev0 := hf.lit 9 (.int .i64 yy) (by kernel_rfl) (by kernel_rfl); clear hd hf; intro K hK; go_simp; exact hK.out _ _ (Ext.refl _) rfl (FreshIf.no rfl) }) ?_
    refine RgAll.cons (by { (with_reducible refine RgL.mkG 20 78 false (by rfl) (by kernel_rfl) (by kernel_rfl) (by kernel_rfl) (by kernel_rfl) (by kernel_rfl) ?_ ?_); (focus (intro _ _ h; exact h)); intro v a w' hE hd hf; have d0 : v 25 = .int .i64 xx := hd 25 (by kernel_rfl); have ev0 := hf.val 25 83 _ d0 (by kernel_rfl) (by kernel_rfl) (by kernel_rfl); clear d0; have d1 : v 26 = .int .i64 yy := hd 26 (by kernel_rfl); have ev1 := hf.val 26 84 _ d1 (by kernel_rfl) (by kernel_rfl) (by kernel_rfl); clear d1; have hx9 := HB.out.2.1; clear hd hf; intro K hK; go_simp; exact hK.out _ _ (Ext.refl _) rfl (FreshIf.no rfl) }) ?_
    refine RgAll.cons (by { (with_reducible refine RgL.mkG 20 78 false (by rfl) (by kernel_rfl) (by kernel_rfl) (by kernel_rfl) (by kernel_rfl) (by kernel_rfl) ?_ ?_); (focus (intro _ _ h; exact h)); intro v a w' hE hd hf; have d0 : v 24 = .bool b1 := hd 24 (by kernel_rfl); have ev0 := hf.val 24 82 _ d0 (by kernel_rfl) (by kernel_rfl) (by kernel_rfl); clear d0; have d1 : v 27 = .bool b1 := hd 27 (by kernel_rfl); have ev1 := hf.val 27 85 _ d1 (by kernel_rfl) (by kernel_rfl) (by kernel_rfl); clear d1; clear hd hf; intro K hK; go_simp; exact hK.out _ _ (Ext.refl _) rfl (FreshIf.no rfl) }) ?_
    refine RgAll.cons (by { (with_reducible refine RgL.mk (by rfl) ?_); intro v a w' hE hd hf; have d0 : v 20 = .bool false := hd 20 (by kernel_rfl); have ev0 := hf.val 20 78 _ d0 (by kernel_rfl) (by kernel_rfl) (by kernel_rfl); clear d0; have d1 : v 28 = .bool false := hd 28 (by kernel_rfl); have ev1 := hf.val 28 86 _ d1 (by kernel_rfl) (by kernel_rfl) (by kernel_rfl); clear d1; clear hd hf; intro K hK; go_simp; exact hK.out _ _ (Ext.refl _) rfl (FreshIf.no rfl) }) ?_
    refine RgAll.cons (by { (with_reducible refine RgL.mk (by rfl) ?_); intro v a w' hE hd hf; have d0 : v 29 = .bool false := hd 29 (by kernel_rfl); have ev0 := hf.val 29 87 _ d0 (by kernel_rfl) (by kernel_rfl) (by kernel_rfl); clear d0; clear hd hf; intro K hK; go_simp; exact hK.out _ _ (Ext.refl _) rfl (FreshIf.no rfl) }) ?_
    refine RgAll.cons (by { (with_reducible refine RgL.mkG 30 88 false (by rfl) (by kernel_rfl) (by kernel_rfl) (by kernel_rfl) (by kernel_rfl) (by kernel_rfl) ?_ ?_); (focus (intro _ _ h; exact h)); intro v a w' hE hd hf; have ev0 := hf.lit 10 (.pointer (some ⟨g10, 0, none⟩)) (by kernel_rfl) (by kernel_rfl); obtain ⟨s8, a8, n8, c8, b8, h8⟩ := (S.mono hE).at 1 (g10) (IsI 2 xx) rfl; have L0 := b8.c0; have L1 := b8.c1; clear hd hf; intro K hK; go_simp; exact hK.out _ _ (Ext.refl _) h8 (FreshIf.no rfl) }) ?_
    refine RgAll.cons (by { (with_reducible refine RgL.mkG 30 88 false (by rfl) (by kernel_rfl) (by kernel_rfl) (by kernel_rfl) (by kernel_rfl) (by kernel_rfl) ?_ ?_); (focus (intro _ _ h; exact h)); intro v a w' hE hd hf; have ev0 := hf.lit 11 (.pointer (some ⟨g11, 0, none⟩)) (by kernel_rfl) (by kernel_rfl); obtain ⟨s8, a8, n8, c8, b8, h8⟩ := (S.mono hE).at 0 (g11) (IsI 2 yy) rfl; have L0 := b8.c0; have L1 := b8.c1; clear hd hf; intro K hK; go_simp; exact hK.out _ _ (Ext.refl _) h8 (FreshIf.no rfl) }) ?_
    refine RgAll.cons (by { (with_reducible refine RgL.mkG 30 88 false (by rfl) (by kernel_rfl) (by kernel_rfl) (by kernel_rfl) (by kernel_rfl) (by kernel_rfl) ?_ ?_); (focus (intro _ _ h; exact h)); intro v a w' hE hd hf; have d0 : (IsI 2 xx) (v 31) w' := hd 31 (by kernel_rfl); have ev0 := hf.val 31 89 _ rfl (by kernel_rfl) (by kernel_rfl) (by kernel_rfl); have d1 : (IsI 2 yy) (v 32) w' := hd 32 (by kernel_rfl); have ev1 := hf.val 32 90 _ rfl (by kernel_rfl) (by kernel_rfl) (by kernel_rfl); clear hd hf; intro K hK; go_simp; go_at_call 16; go_split_ands; (with_reducible refine Calls.mono (Calls.mono (Cmp_f d0 d1 (by decide) (by decide)) fun _ _ h => h.int (HC.out)) ?_); rintro e w2 ⟨x, rfl, e2, hx⟩; exact hK.out _ _ e2 hx (FreshIf.no rfl) }) ?_
    refine RgAll.cons (by { (with_reducible refine RgL.mkG 30 88 false (by rfl) (by kernel_rfl) (by kernel_rfl) (by kernel_rfl) (by kernel_rfl) (by kernel_rfl) ?_ ?_); (focus (intro _ _ h; exact h)); intro v a w' hE hd hf; have d0 : v 33 = .int .i64 cc := hd 33 (by kernel_rfl); have ev0 := hf.val 33 91 _ d0 (by kernel_rfl) (by kernel_rfl) (by kernel_rfl); clear d0; have hx9 := HB.out.2.2.1; clear hd hf; intro K hK; go_simp; exact hK.out _ _ (Ext.refl _) rfl (FreshIf.no rfl) }) ?_
    refine RgAll.cons (by { (with_reducible refine RgL.mkG 30 88 false (by rfl) (by kernel_rfl) (by kernel_rfl) (by kernel_rfl) (by kernel_rfl) (by kernel_rfl) ?_ ?_); (focus (intro _ _ h; exact h)); intro v a w' hE hd hf; have ev0 := hf.lit 8 (.int .i64 xx) (by kernel_rfl) (by kernel_rfl); clear hd hf; intro K hK; go_simp; exact hK.out _ _ (Ext.refl _) rfl (FreshIf.no rfl) }) ?_
    refine RgAll.cons (by { (with_reducible refine RgL.mkG 30 88 false (by rfl) (by kernel_rfl) (by kernel_rfl) (by kernel_rfl) (by kernel_rfl) (by kernel_rfl) ?_ ?_); (focus (intro _ _ h; exact h)); intro v a w' hE hd hf; have ev0 := hf.lit 9 (.int .i64 yy) (by kernel_rfl) (by kernel_rfl); clear hd hf; intro K hK; go_simp; exact hK.out _ _ (Ext.refl _) rfl (FreshIf.no rfl) }) ?_
    refine RgAll.cons (by { (with_reducible refine RgL.mkG 30 88 false (by rfl) (by kernel_rfl) (by kernel_rfl) (by kernel_rfl) (by kernel_rfl) (by kernel_rfl) ?_ ?_); (focus (intro _ _ h; exact h)); intro v a w' hE hd hf; have d0 : v 35 = .int .i64 xx := hd 35 (by kernel_rfl); have ev0 := hf.val 35 93 _ d0 (by kernel_rfl) (by kernel_rfl) (by kernel_rfl); clear d0; have d1 : v 36 = .int .i64 yy := hd 36 (by kernel_rfl); have ev1 := hf.val 36 94 _ d1 (by kernel_rfl) (by kernel_rfl) (by kernel_rfl); clear d1; have hx9 := HB.out.2.2.2; clear hd hf; intro K hK; go_simp; exact hK.out _ _ (Ext.refl _) rfl (FreshIf.no rfl) }) ?_
    refine RgAll.cons (by { (with_reducible refine RgL.mkG 30 88 false (by rfl) (by kernel_rfl) (by kernel_rfl) (by kernel_rfl) (by kernel_rfl) (by kernel_rfl) ?_ ?_); (focus (intro _ _ h; exact h)); intro v a w' hE hd hf; have d0 : v 34 = .bool b2 := hd 34 (by kernel_rfl); have ev0 := hf.val 34 92 _ d0 (by kernel_rfl) (by kernel_rfl) (by kernel_rfl); clear d0; have d1 : v 37 = .bool b2 := hd 37 (by kernel_rfl); have ev1 := hf.val 37 95 _ d1 (by kernel_rfl) (by kernel_rfl) (by kernel_rfl); clear d1; clear hd hf; intro K hK; go_simp; exact hK.out _ _ (Ext.refl _) rfl (FreshIf.no rfl) }) ?_
    refine RgAll.cons (by { (with_reducible refine RgL.mk (by rfl) ?_); intro v a w' hE hd hf; have d0 : v 30 = .bool false := hd 30 (by kernel_rfl); have ev0 := hf.val 30 88 _ d0 (by kernel_rfl) (by kernel_rfl) (by kernel_rfl); clear d0; have d1 : v 38 = .bool false := hd 38 (by kernel_rfl); have ev1 := hf.val 38 96 _ d1 (by kernel_rfl) (by kernel_rfl) (by kernel_rfl); clear d1; clear hd hf; intro K hK; go_simp; exact hK.out _ _ (Ext.refl _) rfl (FreshIf.no rfl) }) ?_
    exact RgAll.nil
  intro v W10 e1 hΦ _
  replace S := S.mono e1
  have v39 : v 39 = .bool false := hΦ 39 (by decide)
  simp only [layL, Act.put, List.setIfInBounds_toArray, List.set_cons_zero, List.set_cons_succ, Nat.reduceAdd]
  rw [v39]
  clear v39
  clear hΦ
  clear e1
  refine wpList_nil ?_
  go_upto_region 12 with (fail)
  have hl := hid S.lt; have hw := S.ext.size
  refine wp_region_rgs 9 [some 99, some 100, some 101, some 98, some 102, some 103, some 104, some 16, some 17] [IsI 2 xx, IsI 2 yy, IsT3 (IsI 2 qq) (IsI 2 rr) (IsV (.int .i64 0)), IsT3 (IsI 2 qq) (IsI 2 rr) (IsV (.int .i64 0)), IsI 2 qq, IsI 2 rr, IsV (.int .i64 0), IsB W10, IsB W10] [7, 8] (by decide) (by kernel_rfl) (by kernel_rfl) (by kernel_rfl) ?_ ?_ ?_ ?_
  · repeat' (first | exact trivial | exact IsV.stb _ | exact IsW.stb _ | exact IsWk.stb _ _ | exact IsI.stb _ _ | exact IsB.stb _ | exact IsR.stb _ _ | exact IsMag.stb _ _ | exact IsPos.stb | apply IsT3.stb | apply IsT2.stb | apply And.intro)
  · intro i hi; simp only [List.mem_cons, List.not_mem_nil, or_false] at hi; rcases hi with rfl | rfl <;> exact IsB.box _
  · refine RgAll.cons (by { (with_reducible refine RgL.mk (by rfl) ?_); intro v a w' hE hd hf; have ev0 := hf.lit 10 (.pointer (some ⟨g10, 0, none⟩)) (by kernel_rfl) (by kernel_rfl); obtain ⟨s8, a8, n8, c8, b8, h8⟩ := (S.mono hE).at 1 (g10) (IsI 2 xx) rfl; have L0 := b8.c0; have L1 := b8.c1; clear hd hf; intro K hK; go_simp; exact hK.out _ _ (Ext.refl _) h8 (FreshIf.no rfl) }) ?_
    refine RgAll.cons (by { (with_reducible refine RgL.mk (by rfl) ?_); intro v a w' hE hd hf; have ev0 := hf.lit 11 (.pointer (some ⟨g11, 0, none⟩)) (by kernel_rfl) (by kernel_rfl); obtain ⟨s8, a8, n8, c8, b8, h8⟩ := (S.mono hE).at 0 (g11) (IsI 2 yy) rfl; have L0 := b8.c0; have L1 := b8.c1; clear hd hf; intro K hK; go_simp; exact hK.out _ _ (Ext.refl _) h8 (FreshIf.no rfl) }) ?_
    refine RgAll.cons (by { (with_reducible refine RgL.mk (by rfl) ?_); intro v a w' hE hd hf; have d0 : (IsI 2 xx) (v 0) w' := hd 0 (by kernel_rfl); have ev0 := hf.val 0 99 _ rfl (by kernel_rfl) (by kernel_rfl) (by kernel_rfl); have d1 : (IsI 2 yy) (v 1) w' := hd 1 (by kernel_rfl); have ev1 := hf.val 1 100 _ rfl (by kernel_rfl) (by kernel_rfl) (by kernel_rfl); clear hd hf; intro K hK; go_simp; go_at_call 11; go_split_ands; (with_reducible refine Calls.mono ((by have hh := DivMod_f d0 d1 (by decide) (by decide) HNZ.out; rw [HQ.out, HR.out] at hh; exact hh)) ?_); rintro e w2 ⟨x, rfl, e2, hx⟩; exact hK.out _ _ e2 hx (FreshIf.no rfl) }) ?_
    refine RgAll.cons (by { (with_reducible refine RgL.mk (by rfl) ?_); intro v a w' hE hd hf; have d0 : (IsT3 (IsI 2 qq) (IsI 2 rr) (IsV (.int .i64 0))) (v 2) w' := hd 2 (by kernel_rfl); have ev0 := hf.val 2 101 _ rfl (by kernel_rfl) (by kernel_rfl) (by kernel_rfl); clear hd hf; intro K hK; go_simp; exact hK.out _ _ (Ext.refl _) d0 (FreshIf.no rfl) }) ?_
    refine RgAll.cons (by { (with_reducible refine RgL.mk (by rfl) ?_); intro v a w' hE hd hf; have d0 : (IsT3 (IsI 2 qq) (IsI 2 rr) (IsV (.int .i64 0))) (v 3) w' := hd 3 (by kernel_rfl); obtain ⟨x0, x1, x2, z0, y0, y1, y2⟩ := d0; have ev0 := hf.val 3 98 _ z0 (by kernel_rfl) (by kernel_rfl) (by kernel_rfl); clear z0; clear hd hf; intro K hK; go_simp; exact hK.out _ _ (Ext.refl _) y0 (FreshIf.no rfl) }) ?_
    refine RgAll.cons (by { (with_reducible refine RgL.mk (by rfl) ?_); intro v a w' hE hd hf; have d0 : (IsT3 (IsI 2 qq) (IsI 2 rr) (IsV (.int .i64 0))) (v 3) w' := hd 3 (by kernel_rfl); obtain ⟨x0, x1, x2, z0, y0, y1, y2⟩ := d0; have ev0 := hf.val 3 98 _ z0 (by kernel_rfl) (by kernel_rfl) (by kernel_rfl); clear z0; clear hd hf; intro K hK; go_simp; exact hK.out _ _ (Ext.refl _) y1 (FreshIf.no rfl) }) ?_
    refine RgAll.cons (by { (with_reducible refine RgL.mk (by rfl) ?_); intro v a w' hE hd hf; have d0 : (IsT3 (IsI 2 qq) (IsI 2 rr) (IsV (.int .i64 0))) (v 3) w' := hd 3 (by kernel_rfl); obtain ⟨x0, x1, x2, z0, y0, y1, y2⟩ := d0; have ev0 := hf.val 3 98 _ z0 (by kernel_rfl) (by kernel_rfl) (by kernel_rfl); clear z0; clear hd hf; intro K hK; go_simp; exact hK.out _ _ (Ext.refl _) y2 (FreshIf.no rfl) }) ?_
    refine RgAll.cons (by { (with_reducible refine RgL.mk (by rfl) ?_); intro v a w' hE hd hf; skip; clear hd hf; intro K hK; go_simp; refine hK.out _ _ ((Ext.refl _).alloc _) ⟨_, rfl, hE.size, Bx.new _ _ _ _ _⟩ FreshIf.yes }) ?_
    refine RgAll.cons (by { (with_reducible refine RgL.mk (by rfl) ?_); intro v a w' hE hd hf; skip; clear hd hf; intro K hK; go_simp; refine hK.out _ _ ((Ext.refl _).alloc _) ⟨_, rfl, hE.size, Bx.new _ _ _ _ _⟩ FreshIf.yes }) ?_
    exact RgAll.nil
  intro v W11 e1 hΦ hne
  replace S := S.mono e1
  obtain ⟨s102, a102, n102, c102, v4, h102⟩ := (hΦ 4 (by decide) : IsI 2 qq (v 4) W11)
  obtain ⟨s103, a103, n103, c103, v5, h103⟩ := (hΦ 5 (by decide) : IsI 2 rr (v 5) W11)
  have v6 : v 6 = .int .i64 0 := hΦ 6 (by decide)
  obtain ⟨g16, v7, q6, b5⟩ := (hΦ 7 (by decide) : IsB W10 (v 7) W11)
  replace S := S.addN (Apart.old hl.out q6) (Nat.le_trans hw q6) b5
  clear b5
  obtain ⟨g17, v8, q8, b7⟩ := (hΦ 8 (by decide) : IsB W10 (v 8) W11)
  replace S := S.addN (Apart.cons (fun h => hne 7 8 (by decide) (by decide) (by decide) (by decide) (by decide) (by rw [v7, v8, h])) (Apart.old hl.out q8)) (Nat.le_trans hw q8) b7
  clear b7
  clear hne
  simp only [layL, Act.put, List.setIfInBounds_toArray, List.set_cons_zero, List.set_cons_succ, Nat.reduceAdd]
  rw [v4, v5, v6, v7, v8]
  clear v4 v5 v6 v7 v8
  clear hΦ
  clear hl hw
  clear e1
  obtain ⟨s8, a8, n8, c8, b8, _⟩ := S.at 1 (g16) (IsI 0 0) rfl; have F1 := b8.c0; have F2 := b8.c1; have F3 := b8.f0; have F4 := b8.f1
  refine wpList_step fun K hK => ?_; go_simp; refine hK _ _ ?_; clear hK K
  clear F1 F2 F3 F4 b8
  obtain ⟨W12, hW, S2, G2, _⟩ := S.put 1 (g16) (IsI 0 0) (IsI 2 qq) rfl s102 a102 n102 c102 (IsI.gstb _ _) ⟨_, _, _, _, rfl, h102⟩
  rw [← hW]; clear hW S
  replace h103 := h103.gr G2
  have S : St w W12 [(g17, IsI 0 0), (g16, IsI 2 qq), (g11, IsI 2 yy), (g10, IsI 2 xx), (w.heap.size, IsR s3 x3)] := S2; clear S2 G2
  clear h102
  obtain ⟨s8, a8, n8, c8, b8, _⟩ := S.at 0 (g17) (IsI 0 0) rfl; have F1 := b8.c0; have F2 := b8.c1; have F3 := b8.f0; have F4 := b8.f1
  refine wpList_step fun K hK => ?_; go_simp; refine hK _ _ ?_; clear hK K
  clear F1 F2 F3 F4 b8
  obtain ⟨W13, hW, S2, G2, _⟩ := S.put 0 (g17) (IsI 0 0) (IsI 2 rr) rfl s103 a103 n103 c103 (IsI.gstb _ _) ⟨_, _, _, _, rfl, h103⟩
  rw [← hW]; clear hW S
  have S : St w W13 [(g17, IsI 2 rr), (g16, IsI 2 qq), (g11, IsI 2 yy), (g10, IsI 2 xx), (w.heap.size, IsR s3 x3)] := S2; clear S2 G2
  clear h103
  refine wpList_step fun K hK => ?_; go_simp; refine hK _ _ ?_; clear hK K
  refine wpList_nil ?_
  go_upto_region 13 with (fail)
  refine wp_region_rgs 2 [some 105, some 106] [IsV (.int .i64 yy), IsV (.bool true)] [] (by decide) (by kernel_rfl) (by kernel_rfl) (by kernel_rfl) ?_ ?_ ?_ ?_
  · repeat' (first | exact trivial | exact IsV.stb _ | exact IsW.stb _ | exact IsWk.stb _ _ | exact IsI.stb _ _ | exact IsB.stb _ | exact IsR.stb _ _ | exact IsMag.stb _ _ | exact IsPos.stb | apply IsT3.stb | apply IsT2.stb | apply And.intro)
  · exact (fun _ h => by cases h)
  · refine RgAll.cons (by { (with_reducible refine RgL.mk (by rfl) ?_); intro v a w' hE hd hf; have ev0 := hf.lit 9 (.int .i64 yy) (by kernel_rfl) (by kernel_rfl); clear hd hf; intro K hK; go_simp; exact hK.out _ _ (Ext.refl _) rfl (FreshIf.no rfl) }) ?_
    refine RgAll.cons (by { (with_reducible refine RgL.mk (by rfl) ?_); intro v a w' hE hd hf; have d0 : v 0 = .int .i64 yy := hd 0 (by kernel_rfl); have ev0 := hf.val 0 105 _ d0 (by kernel_rfl) (by kernel_rfl) (by kernel_rfl); clear d0; have hx9 := HZB.out; clear hd hf; intro K hK; go_simp; exact hK.out _ _ (Ext.refl _) rfl (FreshIf.no rfl) }) ?_
    exact RgAll.nil
  intro v W14 e1 hΦ _
  replace S := S.mono e1
  have v1 : v 1 = .bool true := hΦ 1 (by decide)
  simp only [layL, Act.put, List.setIfInBounds_toArray, List.set_cons_zero, List.set_cons_succ, Nat.reduceAdd]
  rw [v1]
  clear v1
  clear hΦ
  clear e1
  refine wpList_nil ?_
  go_upto_region 14 with (fail)
  refine wp_region_rgs 7 [some 108, some 109, some 107, some 110, some 111, some 19, some 20] [IsI 2 qq, IsT2 (IsV (.int .i64 qq)) (IsV (.bool true)), IsT2 (IsV (.int .i64 qq)) (IsV (.bool true)), IsV (.int .i64 qq), IsV (.bool true), IsV (.int .i64 qq), IsV (.bool true)] [] (by decide) (by kernel_rfl) (by kernel_rfl) (by kernel_rfl) ?_ ?_ ?_ ?_
  · repeat' (first | exact trivial | exact IsV.stb _ | exact IsW.stb _ | exact IsWk.stb _ _ | exact IsI.stb _ _ | exact IsB.stb _ | exact IsR.stb _ _ | exact IsMag.stb _ _ | exact IsPos.stb | apply IsT3.stb | apply IsT2.stb | apply And.intro)
  · exact (fun _ h => by cases h)
  · refine RgAll.cons (by { (with_reducible refine RgL.mk (by rfl) ?_); intro v a w' hE hd hf; have ev0 := hf.lit 16 (.pointer (some ⟨g16, 0, none⟩)) (by kernel_rfl) (by kernel_rfl); obtain ⟨s8, a8, n8, c8, b8, h8⟩ := (S.mono hE).at 1 (g16) (IsI 2 qq) rfl; have L0 := b8.c0; have L1 := b8.c1; clear hd hf; intro K hK; go_simp; exact hK.out _ _ (Ext.refl _) h8 (FreshIf.no rfl) }) ?_
    refine RgAll.cons (by { (with_reducible refine RgL.mk (by rfl) ?_); intro v a w' hE hd hf; have d0 : (IsI 2 qq) (v 0) w' := hd 0 (by kernel_rfl); have ev0 := hf.val 0 108 _ rfl (by kernel_rfl) (by kernel_rfl) (by kernel_rfl); clear hd hf; intro K hK; go_simp; go_at_call 32; go_split_ands; (with_reducible refine Calls.mono (Low_t d0 HQR.out.1 HQR.out.2) ?_); rintro e w2 ⟨x, rfl, e2, hx⟩; exact hK.out _ _ e2 hx (FreshIf.no rfl) }) ?_
    refine RgAll.cons (by { (with_reducible refine RgL.mk (by rfl) ?_); intro v a w' hE hd hf; have d0 : (IsT2 (IsV (.int .i64 qq)) (IsV (.bool true))) (v 1) w' := hd 1 (by kernel_rfl); have ev0 := hf.val 1 109 _ rfl (by kernel_rfl) (by kernel_rfl) (by kernel_rfl); clear hd hf; intro K hK; go_simp; exact hK.out _ _ (Ext.refl _) d0 (FreshIf.no rfl) }) ?_
    refine RgAll.cons (by { (with_reducible refine RgL.mk (by rfl) ?_); intro v a w' hE hd hf; have d0 : (IsT2 (IsV (.int .i64 qq)) (IsV (.bool true))) (v 2) w' := hd 2 (by kernel_rfl); obtain ⟨x0, x1, z0, y0, y1⟩ := d0; have ev0 := hf.val 2 107 _ z0 (by kernel_rfl) (by kernel_rfl) (by kernel_rfl); clear z0; clear hd hf; intro K hK; go_simp; exact hK.out _ _ (Ext.refl _) y0 (FreshIf.no rfl) }) ?_
    refine RgAll.cons (by { (with_reducible refine RgL.mk (by rfl) ?_); intro v a w' hE hd hf; have d0 : (IsT2 (IsV (.int .i64 qq)) (IsV (.bool true))) (v 2) w' := hd 2 (by kernel_rfl); obtain ⟨x0, x1, z0, y0, y1⟩ := d0; have ev0 := hf.val 2 107 _ z0 (by kernel_rfl) (by kernel_rfl) (by kernel_rfl); clear z0; clear hd hf; intro K hK; go_simp; exact hK.out _ _ (Ext.refl _) y1 (FreshIf.no rfl) }) ?_
    refine RgAll.cons (by { (with_reducible refine RgL.mk (by rfl) ?_); intro v a w' hE hd hf; have d0 : v 3 = .int .i64 qq := hd 3 (by kernel_rfl); have ev0 := hf.val 3 110 _ d0 (by kernel_rfl) (by kernel_rfl) (by kernel_rfl); clear d0; clear hd hf; intro K hK; go_simp; exact hK.out _ _ (Ext.refl _) rfl (FreshIf.no rfl) }) ?_
    refine RgAll.cons (by { (with_reducible refine RgL.mk (by rfl) ?_); intro v a w' hE hd hf; have d0 : v 4 = .bool true := hd 4 (by kernel_rfl); have ev0 := hf.val 4 111 _ d0 (by kernel_rfl) (by kernel_rfl) (by kernel_rfl); clear d0; clear hd hf; intro K hK; go_simp; exact hK.out _ _ (Ext.refl _) rfl (FreshIf.no rfl) }) ?_
    exact RgAll.nil
  intro v W15 e1 hΦ _
  replace S := S.mono e1
  have v5 : v 5 = .int .i64 qq := hΦ 5 (by decide)
  have v6 : v 6 = .bool true := hΦ 6 (by decide)
  simp only [layL, Act.put, List.setIfInBounds_toArray, List.set_cons_zero, List.set_cons_succ, Nat.reduceAdd]
  rw [v5, v6]
  clear v5 v6
  clear hΦ
  clear e1
  refine wpList_nil ?_
  go_upto_region 15 with (fail)
  refine wp_region_rgs 7 [some 113, some 114, some 112, some 115, some 116, some 21, some 22] [IsI 2 rr, IsT2 (IsV (.int .i64 rr)) (IsV (.bool true)), IsT2 (IsV (.int .i64 rr)) (IsV (.bool true)), IsV (.int .i64 rr), IsV (.bool true), IsV (.int .i64 rr), IsV (.bool true)] [] (by decide) (by kernel_rfl) (by kernel_rfl) (by kernel_rfl) ?_ ?_ ?_ ?_
  · repeat' (first | exact trivial | exact IsV.stb _ | exact IsW.stb _ | exact IsWk.stb _ _ | exact IsI.stb _ _ | exact IsB.stb _ | exact IsR.stb _ _ | exact IsMag.stb _ _ | exact IsPos.stb | apply IsT3.stb | apply IsT2.stb | apply And.intro)
  · exact (fun _ h => by cases h)
  · refine RgAll.cons (by { (with_reducible refine RgL.mk (by rfl) ?_); intro v a w' hE hd hf; have ev0 := hf.lit 17 (.pointer (some ⟨g17, 0, none⟩)) (by kernel_rfl) (by kernel_rfl); obtain ⟨s8, a8, n8, c8, b8, h8⟩ := (S.mono hE).at 0 (g17) (IsI 2 rr) rfl; have L0 := b8.c0; have L1 := b8.c1; clear hd hf; intro K hK; go_simp; exact hK.out _ _ (Ext.refl _) h8 (FreshIf.no rfl) }) ?_
    refine RgAll.cons (by { (with_reducible refine RgL.mk (by rfl) ?_); intro v a w' hE hd hf; have d0 : (IsI 2 rr) (v 0) w' := hd 0 (by kernel_rfl); have ev0 := hf.val 0 113 _ rfl (by kernel_rfl) (by kernel_rfl) (by kernel_rfl); clear hd hf; intro K hK; go_simp; go_at_call 32; go_split_ands; (with_reducible refine Calls.mono (Low_t d0 HRR.out.1 HRR.out.2) ?_); rintro e w2 ⟨x, rfl, e2, hx⟩; exact hK.out _ _ e2 hx (FreshIf.no rfl) }) ?_
    refine RgAll.cons (by { (with_reducible refine RgL.mk (by rfl) ?_); intro v a w' hE hd hf; have d0 : (IsT2 (IsV (.int .i64 rr)) (IsV (.bool true))) (v 1) w' := hd 1 (by kernel_rfl); have ev0 := hf.val 1 114 _ rfl (by kernel_rfl) (by kernel_rfl) (by kernel_rfl); clear hd hf; intro K hK; go_simp; exact hK.out _ _ (Ext.refl _) d0 (FreshIf.no rfl) }) ?_
    refine RgAll.cons (by { (with_reducible refine RgL.mk (by rfl) ?_); intro v a w' hE hd hf; have d0 : (IsT2 (IsV (.int .i64 rr)) (IsV (.bool true))) (v 2) w' := hd 2 (by kernel_rfl); obtain ⟨x0, x1, z0, y0, y1⟩ := d0; have ev0 := hf.val 2 112 _ z0 (by kernel_rfl) (by kernel_rfl) (by kernel_rfl); clear z0; clear hd hf; intro K hK; go_simp; exact hK.out _ _ (Ext.refl _) y0 (FreshIf.no rfl) }) ?_
    refine RgAll.cons (by { (with_reducible refine RgL.mk (by rfl) ?_); intro v a w' hE hd hf; have d0 : (IsT2 (IsV (.int .i64 rr)) (IsV (.bool true))) (v 2) w' := hd 2 (by kernel_rfl); obtain ⟨x0, x1, z0, y0, y1⟩ := d0; have ev0 := hf.val 2 112 _ z0 (by kernel_rfl) (by kernel_rfl) (by kernel_rfl); clear z0; clear hd hf; intro K hK; go_simp; exact hK.out _ _ (Ext.refl _) y1 (FreshIf.no rfl) }) ?_
    refine RgAll.cons (by { (with_reducible refine RgL.mk (by rfl) ?_); intro v a w' hE hd hf; have d0 : v 3 = .int .i64 rr := hd 3 (by kernel_rfl); have ev0 := hf.val 3 115 _ d0 (by kernel_rfl) (by kernel_rfl) (by kernel_rfl); clear d0; clear hd hf; intro K hK; go_simp; exact hK.out _ _ (Ext.refl _) rfl (FreshIf.no rfl) }) ?_
    refine RgAll.cons (by { (with_reducible refine RgL.mk (by rfl) ?_); intro v a w' hE hd hf; have d0 : v 4 = .bool true := hd 4 (by kernel_rfl); have ev0 := hf.val 4 116 _ d0 (by kernel_rfl) (by kernel_rfl) (by kernel_rfl); clear d0; clear hd hf; intro K hK; go_simp; exact hK.out _ _ (Ext.refl _) rfl (FreshIf.no rfl) }) ?_
    exact RgAll.nil
  intro v W16 e1 hΦ _
  replace S := S.mono e1
  have v5 : v 5 = .int .i64 rr := hΦ 5 (by decide)
  have v6 : v 6 = .bool true := hΦ 6 (by decide)
  simp only [layL, Act.put, List.setIfInBounds_toArray, List.set_cons_zero, List.set_cons_succ, Nat.reduceAdd]
  rw [v5, v6]
  clear v5 v6
  clear hΦ
  clear e1
  refine wpList_nil ?_
  go_upto_region 16 with (fail)
  refine wp_region_rgs 31 [some 117, some 118, some 119, some 120, some 121, some 122, some 123, some 124, some 125, some 126, some 127, some 128, some 129, some 130, some 131, some 132, some 133, some 134, some 135, some 136, some 137, some 138, some 139, some 140, some 141, some 142, some 143, some 144, some 145, some 146, some 147] [IsV (.int .i64 0), IsV (.bool false), IsV (.bool false), IsV (.bool true), IsV (.bool false), IsV (.bool false), IsV (.bool false), IsV (.bool true), IsV (.bool false), IsV (.bool false), IsV (.bool false), IsV (.int .i64 qq), IsV (.int .i64 yy), IsV (.int .i64 (qq * yy)), IsV (.int .i64 rr), IsV (.int .i64 xx), IsV (.int .i64 xx), IsV (.bool false), IsV (.bool false), IsV (.bool false), IsV (.int .i64 rr), IsV (.bool false), IsV (.bool false), IsV (.bool false), IsV (.int .i64 rr), IsV (.int .i64 yy), IsV (.int .i64 yy), IsV (.int .i64 (-yy)), IsV (.int .i64 mm), IsV (.bool false), IsV (.bool false)] [] (by decide) (by kernel_rfl) (by kernel_rfl) (by kernel_rfl) ?_ ?_ ?_ ?_
  · repeat' (first | exact trivial | exact IsV.stb _ | exact IsW.stb _ | exact IsWk.stb _ _ | exact IsI.stb _ _ | exact IsB.stb _ | exact IsR.stb _ _ | exact IsMag.stb _ _ | exact IsPos.stb | apply IsT3.stb | apply IsT2.stb | apply And.intro)
  · exact (fun _ h => by cases h)
  · refine RgAll.cons (by { (with_reducible refine RgL.mk (by rfl) ?_); intro v a w' hE hd hf; have ev0 := hf.lit 18 (.int .i64 0) (by kernel_rfl) (by kernel_rfl); clear hd hf; intro K hK; go_simp; exact hK.out _ _ (Ext.refl _) rfl (FreshIf.no rfl) }) ?_
    refine RgAll.cons (by { (with_reducible refine RgL.mk (by rfl) ?_); intro v a w' hE hd hf; have d0 : v 0 = .int .i64 0 := hd 0 (by kernel_rfl); have ev0 := hf.val 0 117 _ d0 (by kernel_rfl) (by kernel_rfl) (by kernel_rfl); clear d0; clear hd hf; intro K hK; go_simp; exact hK.out _ _ (Ext.refl _) rfl (FreshIf.no rfl) }) ?_
    refine RgAll.cons (by { (with_reducible refine RgL.mk (by rfl) ?_); intro v a w' hE hd hf; have d0 : v 1 = .bool false := hd 1 (by kernel_rfl); have ev0 := hf.val 1 118 _ d0 (by kernel_rfl) (by kernel_rfl) (by kernel_rfl); clear d0; clear hd hf; intro K hK; go_simp; exact hK.out _ _ (Ext.refl _) rfl (FreshIf.no rfl) }) ?_
    refine RgAll.cons (by { (with_reducible refine RgL.mkG 2 119 false (by rfl) (by kernel_rfl) (by kernel_rfl) (by kernel_rfl) (by kernel_rfl) (by kernel_rfl) ?_ ?_); (focus (intro _ _ h; exact h)); intro v a w' hE hd hf; have ev0 := hf.lit 20 (.bool true) (by kernel_rfl) (by kernel_rfl); clear hd hf; intro K hK; go_simp; exact hK.out _ _ (Ext.refl _) rfl (FreshIf.no rfl) }) ?_
    refine RgAll.cons (by { (with_reducible refine RgL.mkG 2 119 false (by rfl) (by kernel_rfl) (by kernel_rfl) (by kernel_rfl) (by kernel_rfl) (by kernel_rfl) ?_ ?_); (focus (intro _ _ h; exact h)); intro v a w' hE hd hf; have d0 : v 3 = .bool true := hd 3 (by kernel_rfl); have ev0 := hf.val 3 120 _ d0 (by kernel_rfl) (by kernel_rfl) (by kernel_rfl); clear d0; clear hd hf; intro K hK; go_simp; exact hK.out _ _ (Ext.refl _) rfl (FreshIf.no rfl) }) ?_
    refine RgAll.cons (by { (with_reducible refine RgL.mk (by rfl) ?_); intro v a w' hE hd hf; have d0 : v 2 = .bool false := hd 2 (by kernel_rfl); have ev0 := hf.val 2 119 _ d0 (by kernel_rfl) (by kernel_rfl) (by kernel_rfl); clear d0; have d1 : v 4 = .bool false := hd 4 (by kernel_rfl); have ev1 := hf.val 4 121 _ d1 (by kernel_rfl) (by kernel_rfl) (by kernel_rfl); clear d1; clear hd hf; intro K hK; go_simp; exact hK.out _ _ (Ext.refl _) rfl (FreshIf.no rfl) }) ?_
    refine RgAll.cons (by { (with_reducible refine RgL.mk (by rfl) ?_); intro v a w' hE hd hf; have d0 : v 5 = .bool false := hd 5 (by kernel_rfl); have ev0 := hf.val 5 122 _ d0 (by kernel_rfl) (by kernel_rfl) (by kernel_rfl); clear d0; clear hd hf; intro K hK; go_simp; exact hK.out _ _ (Ext.refl _) rfl (FreshIf.no rfl) }) ?_
    refine RgAll.cons (by { (with_reducible refine RgL.mkG 6 123 false (by rfl) (by kernel_rfl) (by kernel_rfl) (by kernel_rfl) (by kernel_rfl) (by kernel_rfl) ?_ ?_); (focus (intro _ _ h; exact h)); intro v a w' hE hd hf; have ev0 := hf.lit 22 (.bool true) (by kernel_rfl) (by kernel_rfl); clear hd hf; intro K hK; go_simp; exact hK.out _ _ (Ext.refl _) rfl (FreshIf.no rfl) }) ?_
    refine RgAll.cons (by { (with_reducible refine RgL.mkG 6 123 false (by rfl) (by kernel_rfl) (by kernel_rfl) (by kernel_rfl) (by kernel_rfl) (by kernel_rfl) ?_ ?_); (focus (intro _ _ h; exact h)); intro v a w' hE hd hf; have d0 : v 7 = .bool true := hd 7 (by kernel_rfl); have ev0 := hf.val 7 124 _ d0 (by kernel_rfl) (by kernel_rfl) (by kernel_rfl); clear d0; clear hd hf; intro K hK; go_simp; exact hK.out _ _ (Ext.refl _) rfl (FreshIf.no rfl) }) ?_
    refine RgAll.cons (by { (with_reducible refine RgL.mk (by rfl) ?_); intro v a w' hE hd hf; have d0 : v 6 = .bool false := hd 6 (by kernel_rfl); have ev0 := hf.val 6 123 _ d0 (by kernel_rfl) (by kernel_rfl) (by kernel_rfl); clear d0; have d1 : v 8 = .bool false := hd 8 (by kernel_rfl); have ev1 := hf.val 8 125 _ d1 (by kernel_rfl) (by kernel_rfl) (by kernel_rfl); clear d1; clear hd hf; intro K hK; go_simp; exact hK.out _ _ (Ext.refl _) rfl (FreshIf.no rfl) }) ?_
    refine RgAll.cons (by { (with_reducible refine RgL.mk (by rfl) ?_); intro v a w' hE hd hf; have d0 : v 9 = .bool false := hd 9 (by kernel_rfl); have ev0 := hf.val 9 126 _ d0 (by kernel_rfl) (by kernel_rfl) (by kernel_rfl); clear d0; clear hd hf; intro K hK; go_simp; exact hK.out _ _ (Ext.refl _) rfl (FreshIf.no rfl) }) ?_
    refine RgAll.cons (by { (with_reducible refine RgL.mkG 10 127 false (by rfl) (by kernel_rfl) (by kernel_rfl) (by kernel_rfl) (by kernel_rfl) (by kernel_rfl) ?_ ?_); (focus (intro _ _ h; exact h)); intro v a w' hE hd hf; have ev0 := hf.lit 19 (.int .i64 qq) (by kernel_rfl) (by kernel_rfl); clear hd hf; intro K hK; go_simp; exact hK.out _ _ (Ext.refl _) rfl (FreshIf.no rfl) }) ?_
    refine RgAll.cons (by { (with_reducible refine RgL.mkG 10 127 false (by rfl) (by kernel_rfl) (by kernel_rfl) (by kernel_rfl) (by kernel_rfl) (by kernel_rfl) ?_ ?_); (focus (intro _ _ h; exact h)); intro v a w' hE hd hf; have ev0 := hf.lit 9 (.int .i64 yy) (by kernel_rfl) (by kernel_rfl); clear hd hf; intro K hK; go_simp; exact hK.out _ _ (Ext.refl _) rfl (FreshIf.no rfl) }) ?_
    refine RgAll.cons (by { (with_reducible refine RgL.mkG 10 127 false (by rfl) (by kernel_rfl) (by kernel_rfl) (by kernel_rfl) (by kernel_rfl) (by kernel_rfl) ?_ ?_); (focus (intro _ _ h; exact h)); intro v a w' hE hd hf; have d0 : v 11 = .int .i64 qq := hd 11 (by kernel_rfl); have ev0 := hf.val 11 128 _ d0 (by kernel_rfl) (by kernel_rfl) (by kernel_rfl); clear d0; have d1 : v 12 = .int .i64 yy := hd 12 (by kernel_rfl); have ev1 := hf.val 12 129 _ d1 (by kernel_rfl) (by kernel_rfl) (by kernel_rfl); clear d1; have hx9 := HWQ.out; clear hd hf; intro K hK; go_simp; exact hK.out _ _ (Ext.refl _) rfl (FreshIf.no rfl) }) ?_
    refine RgAll.cons (by { (with_reducible refine RgL.mkG 10 127 false (by rfl) (by kernel_rfl) (by kernel_rfl) (by kernel_rfl) (by kernel_rfl) (by kernel_rfl) ?_ ?_); (focus (intro _ _ h; exact h)); intro v a w' hE hd hf; have ev0 := hf.lit 21 (.int .i64 rr) (by kernel_rfl) (by kernel_rfl); clear hd hf; intro K hK; go_simp; exact hK.out _ _ (Ext.refl _) rfl (FreshIf.no rfl) }) ?_
    refine RgAll.cons (by { (with_reducible refine RgL.mkG 10 127 false (by rfl) (by kernel_rfl) (by kernel_rfl) (by kernel_rfl) (by kernel_rfl) (by kernel_rfl) ?_ ?_); (focus (intro _ _ h; exact h)); intro v a w' hE hd hf; have d0 : v 13 = .int .i64 (qq * yy) := hd 13 (by kernel_rfl); have ev0 := hf.val 13 130 _ d0 (by kernel_rfl) (by kernel_rfl) (by kernel_rfl); clear d0; have d1 : v 14 = .int .i64 rr := hd 14 (by kernel_rfl); have ev1 := hf.val 14 131 _ d1 (by kernel_rfl) (by kernel_rfl) (by kernel_rfl); clear d1; have hx9 := HE.out; have hx8 := HWX.out; clear hd hf; intro K hK; go_simp; exact hK.out _ _ (Ext.refl _) rfl (FreshIf.no rfl) }) ?_
    refine RgAll.cons (by { (with_reducible refine RgL.mkG 10 127 false (by rfl) (by kernel_rfl) (by kernel_rfl) (by kernel_rfl) (by kernel_rfl) (by kernel_rfl) ?_ ?_); (focus (intro _ _ h; exact h)); intro v a w' hE hd hf; have ev0 := hf.lit 8 (.int .i64 xx) (by kernel_rfl) (by kernel_rfl); clear hd hf; intro K hK; go_simp; exact hK.out _ _ (Ext.refl _) rfl (FreshIf.no rfl) }) ?_
    refine RgAll.cons (by { (with_reducible refine RgL.mkG 10 127 false (by rfl) (by kernel_rfl) (by kernel_rfl) (by kernel_rfl) (by kernel_rfl) (by kernel_rfl) ?_ ?_); (focus (intro _ _ h; exact h)); intro v a w' hE hd hf; have d0 : v 15 = .int .i64 xx := hd 15 (by kernel_rfl); have ev0 := hf.val 15 132 _ d0 (by kernel_rfl) (by kernel_rfl) (by kernel_rfl); clear d0; have d1 : v 16 = .int .i64 xx := hd 16 (by kernel_rfl); have ev1 := hf.val 16 133 _ d1 (by kernel_rfl) (by kernel_rfl) (by kernel_rfl); clear d1; clear hd hf; intro K hK; go_simp; exact hK.out _ _ (Ext.refl _) rfl (FreshIf.no rfl) }) ?_
    refine RgAll.cons (by { (with_reducible refine RgL.mk (by rfl) ?_); intro v a w' hE hd hf; have d0 : v 10 = .bool false := hd 10 (by kernel_rfl); have ev0 := hf.val 10 127 _ d0 (by kernel_rfl) (by kernel_rfl) (by kernel_rfl); clear d0; have d1 : v 17 = .bool false := hd 17 (by kernel_rfl); have ev1 := hf.val 17 134 _ d1 (by kernel_rfl) (by kernel_rfl) (by kernel_rfl); clear d1; clear hd hf; intro K hK; go_simp; exact hK.out _ _ (Ext.refl _) rfl (FreshIf.no rfl) }) ?_
    refine RgAll.cons (by { (with_reducible refine RgL.mk (by rfl) ?_); intro v a w' hE hd hf; have d0 : v 18 = .bool false := hd 18 (by kernel_rfl); have ev0 := hf.val 18 135 _ d0 (by kernel_rfl) (by kernel_rfl) (by kernel_rfl); clear d0; clear hd hf; intro K hK; go_simp; exact hK.out _ _ (Ext.refl _) rfl (FreshIf.no rfl) }) ?_
    refine RgAll.cons (by { (with_reducible refine RgL.mkG 19 136 false (by rfl) (by kernel_rfl) (by kernel_rfl) (by kernel_rfl) (by kernel_rfl) (by kernel_rfl) ?_ ?_); (focus (intro _ _ h; exact h)); intro v a w' hE hd hf; have ev0 := hf.lit 21 (.int .i64 rr) (by kernel_rfl) (by kernel_rfl); clear hd hf; intro K hK; go_simp; exact hK.out _ _ (Ext.refl _) rfl (FreshIf.no rfl) }) ?_
    refine RgAll.cons (by { (with_reducible refine RgL.mkG 19 136 false (by rfl) (by kernel_rfl) (by kernel_rfl) (by kernel_rfl) (by kernel_rfl) (by kernel_rfl) ?_ ?_); (focus (intro _ _ h; exact h)); intro v a w' hE hd hf; have d0 : v 20 = .int .i64 rr := hd 20 (by kernel_rfl); have ev0 := hf.val 20 137 _ d0 (by kernel_rfl) (by kernel_rfl) (by kernel_rfl); clear d0; have hx9 := HR0.out; clear hd hf; intro K hK; go_simp; exact hK.out _ _ (Ext.refl _) rfl (FreshIf.no rfl) }) ?_
    refine RgAll.cons (by { (with_reducible refine RgL.mk (by rfl) ?_); intro v a w' hE hd hf; have d0 : v 19 = .bool false := hd 19 (by kernel_rfl); have ev0 := hf.val 19 136 _ d0 (by kernel_rfl) (by kernel_rfl) (by kernel_rfl); clear d0; have d1 : v 21 = .bool false := hd 21 (by kernel_rfl); have ev1 := hf.val 21 138 _ d1 (by kernel_rfl) (by kernel_rfl) (by kernel_rfl); clear d1; clear hd hf; intro K hK; go_simp; exact hK.out _ _ (Ext.refl _) rfl (FreshIf.no rfl) }) ?_
    refine RgAll.cons (by { (with_reducible refine RgL.mk (by rfl) ?_); intro v a w' hE hd hf; have d0 : v 22 = .bool false := hd 22 (by kernel_rfl); have ev0 := hf.val 22 139 _ d0 (by kernel_rfl) (by kernel_rfl) (by kernel_rfl); clear d0; clear hd hf; intro K hK; go_simp; exact hK.out _ _ (Ext.refl _) rfl (FreshIf.no rfl) }) ?_
    refine RgAll.cons (by { (with_reducible refine RgL.mkG 23 140 false (by rfl) (by kernel_rfl) (by kernel_rfl) (by kernel_rfl) (by kernel_rfl) (by kernel_rfl) ?_ ?_); (focus (intro _ _ h; exact h)); intro v a w' hE hd hf; have ev0 := hf.lit 21 (.int .i64 rr) (by kernel_rfl) (by kernel_rfl); clear hd hf; intro K hK; go_simp; exact hK.out _ _ (Ext.refl _) rfl (FreshIf.no rfl) }) ?_
    refine RgAll.cons (by { (with_reducible refine RgL.mkG 23 140 false (by rfl) (by kernel_rfl) (by kernel_rfl) (by kernel_rfl) (by kernel_rfl) (by kernel_rfl) ?_ ?_); (focus (intro _ _ h; exact h)); intro v a w' hE hd hf; have ev0 := hf.lit 9 (.int .i64 yy) (by kernel_rfl) (by kernel_rfl); clear hd hf; intro K hK; go_simp; exact hK.out _ _ (Ext.refl _) rfl (FreshIf.no rfl) }) ?_
    refine RgAll.cons (by { (with_reducible refine RgL.mkG 23 140 false (by rfl) (by kernel_rfl) (by kernel_rfl) (by kernel_rfl) (by kernel_rfl) (by kernel_rfl) ?_ ?_); (focus (intro _ _ h; exact h)); intro v a w' hE hd hf; have ev0 := hf.lit 9 (.int .i64 yy) (by kernel_rfl) (by kernel_rfl); clear hd hf; intro K hK; go_simp; exact hK.out _ _ (Ext.refl _) rfl (FreshIf.no rfl) }) ?_
    refine RgAll.cons (by { (with_reducible refine RgL.mkG 23 140 false (by rfl) (by kernel_rfl) (by kernel_rfl) (by kernel_rfl) (by kernel_rfl) (by kernel_rfl) ?_ ?_); (focus (intro _ _ h; exact h)); intro v a w' hE hd hf; have d0 : v 26 = .int .i64 yy := hd 26 (by kernel_rfl); have ev0 := hf.val 26 143 _ d0 (by kernel_rfl) (by kernel_rfl) (by kernel_rfl); clear d0; have hx9 := HWN.out; clear hd hf; intro K hK; go_simp; exact hK.out _ _ (Ext.refl _) rfl (FreshIf.no rfl) }) ?_
    refine RgAll.cons (by { (with_reducible refine RgL.mkG 23 140 false (by rfl) (by kernel_rfl) (by kernel_rfl) (by kernel_rfl) (by kernel_rfl) (by kernel_rfl) ?_ ?_); (focus (intro _ _ h; exact h)); intro v a w' hE hd hf; have d0 : v 25 = .int .i64 yy := hd 25 (by kernel_rfl); have ev0 := hf.val 25 142 _ d0 (by kernel_rfl) (by kernel_rfl) (by kernel_rfl); clear d0; have d1 : v 27 = .int .i64 (-yy) := hd 27 (by kernel_rfl); have ev1 := hf.val 27 144 _ d1 (by kernel_rfl) (by kernel_rfl) (by kernel_rfl); clear d1; have hx9 := HMM.out; clear hd hf; intro K hK; go_simp; exact hK.out _ _ (Ext.refl _) rfl (FreshIf.no rfl) }) ?_
    refine RgAll.cons (by { (with_reducible refine RgL.mkG 23 140 false (by rfl) (by kernel_rfl) (by kernel_rfl) (by kernel_rfl) (by kernel_rfl) (by kernel_rfl) ?_ ?_); (focus (intro _ _ h; exact h)); intro v a w' hE hd hf; have d0 : v 24 = .int .i64 rr := hd 24 (by kernel_rfl); have ev0 := hf.val 24 141 _ d0 (by kernel_rfl) (by kernel_rfl) (by kernel_rfl); clear d0; have d1 : v 28 = .int .i64 mm := hd 28 (by kernel_rfl); have ev1 := hf.val 28 145 _ d1 (by kernel_rfl) (by kernel_rfl) (by kernel_rfl); clear d1; have hx9 := HRM.out; clear hd hf; intro K hK; go_simp; exact hK.out _ _ (Ext.refl _) rfl (FreshIf.no rfl) }) ?_
    refine RgAll.cons (by { (with_reducible refine RgL.mk (by rfl) ?_); intro v a w' hE hd hf; have d0 : v 23 = .bool false := hd 23 (by kernel_rfl); have ev0 := hf.val 23 140 _ d0 (by kernel_rfl) (by kernel_rfl) (by kernel_rfl); clear d0; have d1 : v 29 = .bool false := hd 29 (by kernel_rfl); have ev1 := hf.val 29 146 _ d1 (by kernel_rfl) (by kernel_rfl) (by kernel_rfl); clear d1; clear hd hf; intro K hK; go_simp; exact hK.out _ _ (Ext.refl _) rfl (FreshIf.no rfl) }) ?_
    exact RgAll.nil
  intro v W17 e1 hΦ _
  replace S := S.mono e1
  have v30 : v 30 = .bool false := hΦ 30 (by decide)
  simp only [layL, Act.put, List.setIfInBounds_toArray, List.set_cons_zero, List.set_cons_succ, Nat.reduceAdd]
  rw [v30]
  clear v30
  clear hΦ
  clear e1
  refine wpList_nil ?_
  go_upto_region 18 with (fail)
  have hl := hid S.lt; have hw := S.ext.size
  refine wp_region_rgs 2 [some 148, some 23] [IsI 2 9223372036854775807, IsB W17] [1] (by decide) (by kernel_rfl) (by kernel_rfl) (by kernel_rfl) ?_ ?_ ?_ ?_
  · repeat' (first | exact trivial | exact IsV.stb _ | exact IsW.stb _ | exact IsWk.stb _ _ | exact IsI.stb _ _ | exact IsB.stb _ | exact IsR.stb _ _ | exact IsMag.stb _ _ | exact IsPos.stb | apply IsT3.stb | apply IsT2.stb | apply And.intro)
  · intro i hi; simp only [List.mem_cons, List.not_mem_nil, or_false] at hi; subst hi; exact IsB.box _
  · refine RgAll.cons (by { (with_reducible refine RgL.mk (by rfl) ?_); intro v a w' hE hd hf; skip; clear hd hf; intro K hK; go_simp; go_at_call 23; go_split_ands; (with_reducible refine Calls.mono (Of_f _ 9223372036854775807 (by decide) (by decide)) ?_); rintro e w2 ⟨x, rfl, e2, hx⟩; exact hK.out _ _ e2 hx (FreshIf.no rfl) }) ?_
    refine RgAll.cons (by { (with_reducible refine RgL.mk (by rfl) ?_); intro v a w' hE hd hf; skip; clear hd hf; intro K hK; go_simp; refine hK.out _ _ ((Ext.refl _).alloc _) ⟨_, rfl, hE.size, Bx.new _ _ _ _ _⟩ FreshIf.yes }) ?_
    exact RgAll.nil
  intro v W18 e1 hΦ _
  replace S := S.mono e1
  obtain ⟨s148, a148, n148, c148, v0, h148⟩ := (hΦ 0 (by decide) : IsI 2 9223372036854775807 (v 0) W18)
  obtain ⟨g23, v1, q10, b9⟩ := (hΦ 1 (by decide) : IsB W17 (v 1) W18)
  replace S := S.addN (Apart.old hl.out q10) (Nat.le_trans hw q10) b9
  clear b9
  simp only [layL, Act.put, List.setIfInBounds_toArray, List.set_cons_zero, List.set_cons_succ, Nat.reduceAdd]
  rw [v0, v1]
  clear v0 v1
  clear hΦ
  clear hl hw
  clear e1
  obtain ⟨s8, a8, n8, c8, b8, _⟩ := S.at 0 (g23) (IsI 0 0) rfl; have F1 := b8.c0; have F2 := b8.c1; have F3 := b8.f0; have F4 := b8.f1
  refine wpList_step fun K hK => ?_; go_simp; refine hK _ _ ?_; clear hK K
  clear F1 F2 F3 F4 b8
  obtain ⟨W19, hW, S2, G2, _⟩ := S.put 0 (g23) (IsI 0 0) (IsI 2 9223372036854775807) rfl s148 a148 n148 c148 (IsI.gstb _ _) ⟨_, _, _, _, rfl, h148⟩
  rw [← hW]; clear hW S
  have S : St w W19 [(g23, IsI 2 9223372036854775807), (g17, IsI 2 rr), (g16, IsI 2 qq), (g11, IsI 2 yy), (g10, IsI 2 xx), (w.heap.size, IsR s3 x3)] := S2; clear S2 G2
  clear h148
  refine wpList_nil ?_
  go_upto_region 19 with (fail)
  have hl := hid S.lt; have hw := S.ext.size
  refine wp_region_rgs 2 [some 149, some 24] [IsI 2 ((-9223372036854775808)), IsB W19] [1] (by decide) (by kernel_rfl) (by kernel_rfl) (by kernel_rfl) ?_ ?_ ?_ ?_
  · repeat' (first | exact trivial | exact IsV.stb _ | exact IsW.stb _ | exact IsWk.stb _ _ | exact IsI.stb _ _ | exact IsB.stb _ | exact IsR.stb _ _ | exact IsMag.stb _ _ | exact IsPos.stb | apply IsT3.stb | apply IsT2.stb | apply And.intro)
  · intro i hi; simp only [List.mem_cons, List.not_mem_nil, or_false] at hi; subst hi; exact IsB.box _
  · refine RgAll.cons (by { (with_reducible refine RgL.mk (by rfl) ?_); intro v a w' hE hd hf; skip; clear hd hf; intro K hK; go_simp; go_at_call 23; go_split_ands; (with_reducible refine Calls.mono (Of_f _ ((-9223372036854775808)) (by decide) (by decide)) ?_); rintro e w2 ⟨x, rfl, e2, hx⟩; exact hK.out _ _ e2 hx (FreshIf.no rfl) }) ?_
    refine RgAll.cons (by { (with_reducible refine RgL.mk (by rfl) ?_); intro v a w' hE hd hf; skip; clear hd hf; intro K hK; go_simp; refine hK.out _ _ ((Ext.refl _).alloc _) ⟨_, rfl, hE.size, Bx.new _ _ _ _ _⟩ FreshIf.yes }) ?_
    exact RgAll.nil
  intro v W20 e1 hΦ _
  replace S := S.mono e1
  obtain ⟨s149, a149, n149, c149, v0, h149⟩ := (hΦ 0 (by decide) : IsI 2 ((-9223372036854775808)) (v 0) W20)
  obtain ⟨g24, v1, q12, b11⟩ := (hΦ 1 (by decide) : IsB W19 (v 1) W20)
  replace S := S.addN (Apart.old hl.out q12) (Nat.le_trans hw q12) b11
  clear b11
  simp only [layL, Act.put, List.setIfInBounds_toArray, List.set_cons_zero, List.set_cons_succ, Nat.reduceAdd]
  rw [v0, v1]
  clear v0 v1
  clear hΦ
  clear hl hw
  clear e1
  obtain ⟨s8, a8, n8, c8, b8, _⟩ := S.at 0 (g24) (IsI 0 0) rfl; have F1 := b8.c0; have F2 := b8.c1; have F3 := b8.f0; have F4 := b8.f1
  refine wpList_step fun K hK => ?_; go_simp; refine hK _ _ ?_; clear hK K
  clear F1 F2 F3 F4 b8
  obtain ⟨W21, hW, S2, G2, _⟩ := S.put 0 (g24) (IsI 0 0) (IsI 2 ((-9223372036854775808))) rfl s149 a149 n149 c149 (IsI.gstb _ _) ⟨_, _, _, _, rfl, h149⟩
  rw [← hW]; clear hW S
  have S : St w W21 [(g24, IsI 2 ((-9223372036854775808))), (g23, IsI 2 9223372036854775807), (g17, IsI 2 rr), (g16, IsI 2 qq), (g11, IsI 2 yy), (g10, IsI 2 xx), (w.heap.size, IsR s3 x3)] := S2; clear S2 G2
  clear h149
  refine wpList_nil ?_
  go_upto_region 20 with (fail)
  refine wp_region_rgs 7 [some 151, some 152, some 150, some 153, some 154, some 25, some 26] [IsI 2 9223372036854775807, IsT2 (IsV (.int .i64 9223372036854775807)) (IsV (.bool true)), IsT2 (IsV (.int .i64 9223372036854775807)) (IsV (.bool true)), IsV (.int .i64 9223372036854775807), IsV (.bool true), IsV (.int .i64 9223372036854775807), IsV (.bool true)] [] (by decide) (by kernel_rfl) (by kernel_rfl) (by kernel_rfl) ?_ ?_ ?_ ?_
  · repeat' (first | exact trivial | exact IsV.stb _ | exact IsW.stb _ | exact IsWk.stb _ _ | exact IsI.stb _ _ | exact IsB.stb _ | exact IsR.stb _ _ | exact IsMag.stb _ _ | exact IsPos.stb | apply IsT3.stb | apply IsT2.stb | apply And.intro)
  · exact (fun _ h => by cases h)
  · refine RgAll.cons (by { (with_reducible refine RgL.mk (by rfl) ?_); intro v a w' hE hd hf; have ev0 := hf.lit 23 (.pointer (some ⟨g23, 0, none⟩)) (by kernel_rfl) (by kernel_rfl); obtain ⟨s8, a8, n8, c8, b8, h8⟩ := (S.mono hE).at 1 (g23) (IsI 2 9223372036854775807) rfl; have L0 := b8.c0; have L1 := b8.c1; clear hd hf; intro K hK; go_simp; exact hK.out _ _ (Ext.refl _) h8 (FreshIf.no rfl) }) ?_
    refine RgAll.cons (by { (with_reducible refine RgL.mk (by rfl) ?_); intro v a w' hE hd hf; have d0 : (IsI 2 9223372036854775807) (v 0) w' := hd 0 (by kernel_rfl); have ev0 := hf.val 0 151 _ rfl (by kernel_rfl) (by kernel_rfl) (by kernel_rfl); clear hd hf; intro K hK; go_simp; go_at_call 32; go_split_ands; (with_reducible refine Calls.mono (Low_t d0 (by decide) (by decide)) ?_); rintro e w2 ⟨x, rfl, e2, hx⟩; exact hK.out _ _ e2 hx (FreshIf.no rfl) }) ?_
    refine RgAll.cons (by { (with_reducible refine RgL.mk (by rfl) ?_); intro v a w' hE hd hf; have d0 : (IsT2 (IsV (.int .i64 9223372036854775807)) (IsV (.bool true))) (v 1) w' := hd 1 (by kernel_rfl); have ev0 := hf.val 1 152 _ rfl (by kernel_rfl) (by kernel_rfl) (by kernel_rfl); clear hd hf; intro K hK; go_simp; exact hK.out _ _ (Ext.refl _) d0 (FreshIf.no rfl) }) ?_
    refine RgAll.cons (by { (with_reducible refine RgL.mk (by rfl) ?_); intro v a w' hE hd hf; have d0 : (IsT2 (IsV (.int .i64 9223372036854775807)) (IsV (.bool true))) (v 2) w' := hd 2 (by kernel_rfl); obtain ⟨x0, x1, z0, y0, y1⟩ := d0; have ev0 := hf.val 2 150 _ z0 (by kernel_rfl) (by kernel_rfl) (by kernel_rfl); clear z0; clear hd hf; intro K hK; go_simp; exact hK.out _ _ (Ext.refl _) y0 (FreshIf.no rfl) }) ?_
    refine RgAll.cons (by { (with_reducible refine RgL.mk (by rfl) ?_); intro v a w' hE hd hf; have d0 : (IsT2 (IsV (.int .i64 9223372036854775807)) (IsV (.bool true))) (v 2) w' := hd 2 (by kernel_rfl); obtain ⟨x0, x1, z0, y0, y1⟩ := d0; have ev0 := hf.val 2 150 _ z0 (by kernel_rfl) (by kernel_rfl) (by kernel_rfl); clear z0; clear hd hf; intro K hK; go_simp; exact hK.out _ _ (Ext.refl _) y1 (FreshIf.no rfl) }) ?_
    refine RgAll.cons (by { (with_reducible refine RgL.mk (by rfl) ?_); intro v a w' hE hd hf; have d0 : v 3 = .int .i64 9223372036854775807 := hd 3 (by kernel_rfl); have ev0 := hf.val 3 153 _ d0 (by kernel_rfl) (by kernel_rfl) (by kernel_rfl); clear d0; clear hd hf; intro K hK; go_simp; exact hK.out _ _ (Ext.refl _) rfl (FreshIf.no rfl) }) ?_
    refine RgAll.cons (by { (with_reducible refine RgL.mk (by rfl) ?_); intro v a w' hE hd hf; have d0 : v 4 = .bool true := hd 4 (by kernel_rfl); have ev0 := hf.val 4 154 _ d0 (by kernel_rfl) (by kernel_rfl) (by kernel_rfl); clear d0; clear hd hf; intro K hK; go_simp; exact hK.out _ _ (Ext.refl _) rfl (FreshIf.no rfl) }) ?_
    exact RgAll.nil
  intro v W22 e1 hΦ _
  replace S := S.mono e1
  have v5 : v 5 = .int .i64 9223372036854775807 := hΦ 5 (by decide)
  have v6 : v 6 = .bool true := hΦ 6 (by decide)
  simp only [layL, Act.put, List.setIfInBounds_toArray, List.set_cons_zero, List.set_cons_succ, Nat.reduceAdd]
  rw [v5, v6]
  clear v5 v6
  clear hΦ
  clear e1
  refine wpList_nil ?_
  go_upto_region 21 with (fail)
  refine wp_region_rgs 7 [some 156, some 157, some 155, some 158, some 159, some 27, some 28] [IsI 2 ((-9223372036854775808)), IsT2 (IsV (.int .i64 (-9223372036854775808))) (IsV (.bool true)), IsT2 (IsV (.int .i64 (-9223372036854775808))) (IsV (.bool true)), IsV (.int .i64 (-9223372036854775808)), IsV (.bool true), IsV (.int .i64 (-9223372036854775808)), IsV (.bool true)] [] (by decide) (by kernel_rfl) (by kernel_rfl) (by kernel_rfl) ?_ ?_ ?_ ?_
  · repeat' (first | exact trivial | exact IsV.stb _ | exact IsW.stb _ | exact IsWk.stb _ _ | exact IsI.stb _ _ | exact IsB.stb _ | exact IsR.stb _ _ | exact IsMag.stb _ _ | exact IsPos.stb | apply IsT3.stb | apply IsT2.stb | apply And.intro)
  · exact (fun _ h => by cases h)
  · refine RgAll.cons (by { (with_reducible refine RgL.mk (by rfl) ?_); intro v a w' hE hd hf; have ev0 := hf.lit 24 (.pointer (some ⟨g24, 0, none⟩)) (by kernel_rfl) (by kernel_rfl); obtain ⟨s8, a8, n8, c8, b8, h8⟩ := (S.mono hE).at 0 (g24) (IsI 2 ((-9223372036854775808))) rfl; have L0 := b8.c0; have L1 := b8.c1; clear hd hf; intro K hK; go_simp; exact hK.out _ _ (Ext.refl _) h8 (FreshIf.no rfl) }) ?_
    refine RgAll.cons (by { (with_reducible refine RgL.mk (by rfl) ?_); intro v a w' hE hd hf; have d0 : (IsI 2 ((-9223372036854775808))) (v 0) w' := hd 0 (by kernel_rfl); have ev0 := hf.val 0 156 _ rfl (by kernel_rfl) (by kernel_rfl) (by kernel_rfl); clear hd hf; intro K hK; go_simp; go_at_call 32; go_split_ands; (with_reducible refine Calls.mono (Low_t d0 (by decide) (by decide)) ?_); rintro e w2 ⟨x, rfl, e2, hx⟩; exact hK.out _ _ e2 hx (FreshIf.no rfl) }) ?_
    refine RgAll.cons (by { (with_reducible refine RgL.mk (by rfl) ?_); intro v a w' hE hd hf; have d0 : (IsT2 (IsV (.int .i64 (-9223372036854775808))) (IsV (.bool true))) (v 1) w' := hd 1 (by kernel_rfl); have ev0 := hf.val 1 157 _ rfl (by kernel_rfl) (by kernel_rfl) (by kernel_rfl); clear hd hf; intro K hK; go_simp; exact hK.out _ _ (Ext.refl _) d0 (FreshIf.no rfl) }) ?_
    refine RgAll.cons (by { (with_reducible refine RgL.mk (by rfl) ?_); intro v a w' hE hd hf; have d0 : (IsT2 (IsV (.int .i64 (-9223372036854775808))) (IsV (.bool true))) (v 2) w' := hd 2 (by kernel_rfl); obtain ⟨x0, x1, z0, y0, y1⟩ := d0; have ev0 := hf.val 2 155 _ z0 (by kernel_rfl) (by kernel_rfl) (by kernel_rfl); clear z0; clear hd hf; intro K hK; go_simp; exact hK.out _ _ (Ext.refl _) y0 (FreshIf.no rfl) }) ?_
    refine RgAll.cons (by { (with_reducible refine RgL.mk (by rfl) ?_); intro v a w' hE hd hf; have d0 : (IsT2 (IsV (.int .i64 (-9223372036854775808))) (IsV (.bool true))) (v 2) w' := hd 2 (by kernel_rfl); obtain ⟨x0, x1, z0, y0, y1⟩ := d0; have ev0 := hf.val 2 155 _ z0 (by kernel_rfl) (by kernel_rfl) (by kernel_rfl); clear z0; clear hd hf; intro K hK; go_simp; exact hK.out _ _ (Ext.refl _) y1 (FreshIf.no rfl) }) ?_
    refine RgAll.cons (by { (with_reducible refine RgL.mk (by rfl) ?_); intro v a w' hE hd hf; have d0 : v 3 = .int .i64 (-9223372036854775808) := hd 3 (by kernel_rfl); have ev0 := hf.val 3 158 _ d0 (by kernel_rfl) (by kernel_rfl) (by kernel_rfl); clear d0; clear hd hf; intro K hK; go_simp; exact hK.out _ _ (Ext.refl _) rfl (FreshIf.no rfl) }) ?_
    refine RgAll.cons (by { (with_reducible refine RgL.mk (by rfl) ?_); intro v a w' hE hd hf; have d0 : v 4 = .bool true := hd 4 (by kernel_rfl); have ev0 := hf.val 4 159 _ d0 (by kernel_rfl) (by kernel_rfl) (by kernel_rfl); clear d0; clear hd hf; intro K hK; go_simp; exact hK.out _ _ (Ext.refl _) rfl (FreshIf.no rfl) }) ?_
    exact RgAll.nil
  intro v W23 e1 hΦ _
  replace S := S.mono e1
  have v5 : v 5 = .int .i64 (-9223372036854775808) := hΦ 5 (by decide)
  have v6 : v 6 = .bool true := hΦ 6 (by decide)
  simp only [layL, Act.put, List.setIfInBounds_toArray, List.set_cons_zero, List.set_cons_succ, Nat.reduceAdd]
  rw [v5, v6]
  clear v5 v6
  clear hΦ
  clear e1
  refine wpList_nil ?_
  go_upto_region 22 with (fail)
  refine wp_region_rg 9 [some 161, some 162, some 163, some 164, some 160, some 165, some 166, some 29, some 30] [IsI 2 9223372036854775807, IsI 2 1, IsI 3 (9223372036854775807 + 1), IsT2 (IsV (.int .i64 0)) (IsV (.bool false)), IsT2 (IsV (.int .i64 0)) (IsV (.bool false)), IsV (.int .i64 0), IsV (.bool false), IsV (.int .i64 0), IsV (.bool false)] [] 0 (by kernel_rfl) (by decide) (by kernel_rfl) (by kernel_rfl) (by kernel_rfl) (by kernel_rfl) (by kernel_rfl) ?_ ?_ ?_ ?_
  · repeat' (first | exact trivial | exact IsV.stb _ | exact IsW.stb _ | exact IsWk.stb _ _ | exact IsI.stb _ _ | exact IsB.stb _ | exact IsR.stb _ _ | exact IsMag.stb _ _ | exact IsPos.stb | apply IsT3.stb | apply IsT2.stb | apply And.intro)
  · exact (fun _ h => by cases h)
  · refine RgAll.cons (by { (with_reducible refine RgL.mk (by rfl) ?_); intro v a w' hE hd hf; have ev0 := hf.lit 23 (.pointer (some ⟨g23, 0, none⟩)) (by kernel_rfl) (by kernel_rfl); obtain ⟨s8, a8, n8, c8, b8, h8⟩ := (S.mono hE).at 1 (g23) (IsI 2 9223372036854775807) rfl; have L0 := b8.c0; have L1 := b8.c1; clear hd hf; intro K hK; go_simp; exact hK.out _ _ (Ext.refl _) h8 (FreshIf.no rfl) }) ?_
    refine RgAll.cons (by { (with_reducible refine RgL.mk (by rfl) ?_); intro v a w' hE hd hf; skip; clear hd hf; intro K hK; go_simp; go_at_call 23; go_split_ands; (with_reducible refine Calls.mono (Of_f _ 1 (by decide) (by decide)) ?_); rintro e w2 ⟨x, rfl, e2, hx⟩; exact hK.out _ _ e2 hx (FreshIf.no rfl) }) ?_
    refine RgAll.cons (by { (with_reducible refine RgL.mk (by rfl) ?_); intro v a w' hE hd hf; have d0 : (IsI 2 9223372036854775807) (v 0) w' := hd 0 (by kernel_rfl); have ev0 := hf.val 0 161 _ rfl (by kernel_rfl) (by kernel_rfl) (by kernel_rfl); have d1 : (IsI 2 1) (v 1) w' := hd 1 (by kernel_rfl); have ev1 := hf.val 1 162 _ rfl (by kernel_rfl) (by kernel_rfl) (by kernel_rfl); clear hd hf; intro K hK; go_simp; go_at_call 12; go_split_ands; (with_reducible refine Calls.mono (Add_f d0 d1 (by decide) (by decide)) ?_); rintro e w2 ⟨x, rfl, e2, hx⟩; exact hK.out _ _ e2 hx (FreshIf.no rfl) }) ?_
    refine RgAll.cons (by { (with_reducible refine RgL.mk (by rfl) ?_); intro v a w' hE hd hf; have d0 : (IsI 3 (9223372036854775807 + 1)) (v 2) w' := hd 2 (by kernel_rfl); have ev0 := hf.val 2 163 _ rfl (by kernel_rfl) (by kernel_rfl) (by kernel_rfl); clear hd hf; intro K hK; go_simp; go_at_call 32; go_split_ands; (with_reducible refine Calls.mono (Low_n d0 (by decide)) ?_); rintro e w2 ⟨x, rfl, e2, hx⟩; exact hK.out _ _ e2 hx (FreshIf.no rfl) }) ?_
    refine RgAll.cons (by { (with_reducible refine RgL.mk (by rfl) ?_); intro v a w' hE hd hf; have d0 : (IsT2 (IsV (.int .i64 0)) (IsV (.bool false))) (v 3) w' := hd 3 (by kernel_rfl); have ev0 := hf.val 3 164 _ rfl (by kernel_rfl) (by kernel_rfl) (by kernel_rfl); clear hd hf; intro K hK; go_simp; exact hK.out _ _ (Ext.refl _) d0 (FreshIf.no rfl) }) ?_
    refine RgAll.cons (by { (with_reducible refine RgL.mk (by rfl) ?_); intro v a w' hE hd hf; have d0 : (IsT2 (IsV (.int .i64 0)) (IsV (.bool false))) (v 4) w' := hd 4 (by kernel_rfl); obtain ⟨x0, x1, z0, y0, y1⟩ := d0; have ev0 := hf.val 4 160 _ z0 (by kernel_rfl) (by kernel_rfl) (by kernel_rfl); clear z0; clear hd hf; intro K hK; go_simp; exact hK.out _ _ (Ext.refl _) y0 (FreshIf.no rfl) }) ?_
    refine RgAll.cons (by { (with_reducible refine RgL.mk (by rfl) ?_); intro v a w' hE hd hf; have d0 : (IsT2 (IsV (.int .i64 0)) (IsV (.bool false))) (v 4) w' := hd 4 (by kernel_rfl); obtain ⟨x0, x1, z0, y0, y1⟩ := d0; have ev0 := hf.val 4 160 _ z0 (by kernel_rfl) (by kernel_rfl) (by kernel_rfl); clear z0; clear hd hf; intro K hK; go_simp; exact hK.out _ _ (Ext.refl _) y1 (FreshIf.no rfl) }) ?_
    refine RgAll.cons (by { (with_reducible refine RgL.mk (by rfl) ?_); intro v a w' hE hd hf; have d0 : v 5 = .int .i64 0 := hd 5 (by kernel_rfl); have ev0 := hf.val 5 165 _ d0 (by kernel_rfl) (by kernel_rfl) (by kernel_rfl); clear d0; clear hd hf; intro K hK; go_simp; exact hK.out _ _ (Ext.refl _) rfl (FreshIf.no rfl) }) ?_
    refine RgAll.cons (by { (with_reducible refine RgL.mk (by rfl) ?_); intro v a w' hE hd hf; have d0 : v 6 = .bool false := hd 6 (by kernel_rfl); have ev0 := hf.val 6 166 _ d0 (by kernel_rfl) (by kernel_rfl) (by kernel_rfl); clear d0; clear hd hf; intro K hK; go_simp; exact hK.out _ _ (Ext.refl _) rfl (FreshIf.no rfl) }) ?_
    exact RgAll.nil
  intro v W24 e1 hΦ _
  replace S := S.mono e1
  have v8 : v 8 = .bool false := hΦ 8 (by decide)
  simp only [layL, Act.put, List.setIfInBounds_toArray, List.set_cons_zero, List.set_cons_succ, Nat.reduceAdd]
  rw [v8]
  clear v8
  clear hΦ
  clear e1
  refine wpAny_done (by kernel_rfl) ?_ _
  go_upto_region 23 with (fail)
  refine wp_region_rg 9 [some 168, some 169, some 170, some 171, some 167, some 172, some 173, some 31, some 32] [IsI 2 ((-9223372036854775808)), IsI 2 1, IsI 3 (((-9223372036854775808)) - 1), IsT2 (IsV (.int .i64 0)) (IsV (.bool false)), IsT2 (IsV (.int .i64 0)) (IsV (.bool false)), IsV (.int .i64 0), IsV (.bool false), IsV (.int .i64 0), IsV (.bool false)] [] 0 (by kernel_rfl) (by decide) (by kernel_rfl) (by kernel_rfl) (by kernel_rfl) (by kernel_rfl) (by kernel_rfl) ?_ ?_ ?_ ?_
  · repeat' (first | exact trivial | exact IsV.stb _ | exact IsW.stb _ | exact IsWk.stb _ _ | exact IsI.stb _ _ | exact IsB.stb _ | exact IsR.stb _ _ | exact IsMag.stb _ _ | exact IsPos.stb | apply IsT3.stb | apply IsT2.stb | apply And.intro)
  · exact (fun _ h => by cases h)
  · refine RgAll.cons (by { (with_reducible refine RgL.mk (by rfl) ?_); intro v a w' hE hd hf; have ev0 := hf.lit 24 (.pointer (some ⟨g24, 0, none⟩)) (by kernel_rfl) (by kernel_rfl); obtain ⟨s8, a8, n8, c8, b8, h8⟩ := (S.mono hE).at 0 (g24) (IsI 2 ((-9223372036854775808))) rfl; have L0 := b8.c0; have L1 := b8.c1; clear hd hf; intro K hK; go_simp; exact hK.out _ _ (Ext.refl _) h8 (FreshIf.no rfl) }) ?_
    refine RgAll.cons (by { (with_reducible refine RgL.mk (by rfl) ?_); intro v a w' hE hd hf; skip; clear hd hf; intro K hK; go_simp; go_at_call 23; go_split_ands; (with_reducible refine Calls.mono (Of_f _ 1 (by decide) (by decide)) ?_); rintro e w2 ⟨x, rfl, e2, hx⟩; exact hK.out _ _ e2 hx (FreshIf.no rfl) }) ?_
    refine RgAll.cons (by { (with_reducible refine RgL.mk (by rfl) ?_); intro v a w' hE hd hf; have d0 : (IsI 2 ((-9223372036854775808))) (v 0) w' := hd 0 (by kernel_rfl); have ev0 := hf.val 0 168 _ rfl (by kernel_rfl) (by kernel_rfl) (by kernel_rfl); have d1 : (IsI 2 1) (v 1) w' := hd 1 (by kernel_rfl); have ev1 := hf.val 1 169 _ rfl (by kernel_rfl) (by kernel_rfl) (by kernel_rfl); clear hd hf; intro K hK; go_simp; go_at_call 22; go_split_ands; (with_reducible refine Calls.mono (Sub_f d0 d1 (by decide) (by decide)) ?_); rintro e w2 ⟨x, rfl, e2, hx⟩; exact hK.out _ _ e2 hx (FreshIf.no rfl) }) ?_
    refine RgAll.cons (by { (with_reducible refine RgL.mk (by rfl) ?_); intro v a w' hE hd hf; have d0 : (IsI 3 (((-9223372036854775808)) - 1)) (v 2) w' := hd 2 (by kernel_rfl); have ev0 := hf.val 2 170 _ rfl (by kernel_rfl) (by kernel_rfl) (by kernel_rfl); clear hd hf; intro K hK; go_simp; go_at_call 32; go_split_ands; (with_reducible refine Calls.mono (Low_n d0 (by decide)) ?_); rintro e w2 ⟨x, rfl, e2, hx⟩; exact hK.out _ _ e2 hx (FreshIf.no rfl) }) ?_
    refine RgAll.cons (by { (with_reducible refine RgL.mk (by rfl) ?_); intro v a w' hE hd hf; have d0 : (IsT2 (IsV (.int .i64 0)) (IsV (.bool false))) (v 3) w' := hd 3 (by kernel_rfl); have ev0 := hf.val 3 171 _ rfl (by kernel_rfl) (by kernel_rfl) (by kernel_rfl); clear hd hf; intro K hK; go_simp; exact hK.out _ _ (Ext.refl _) d0 (FreshIf.no rfl) }) ?_
    refine RgAll.cons (by { (with_reducible refine RgL.mk (by rfl) ?_); intro v a w' hE hd hf; have d0 : (IsT2 (IsV (.int .i64 0)) (IsV (.bool false))) (v 4) w' := hd 4 (by kernel_rfl); obtain ⟨x0, x1, z0, y0, y1⟩ := d0; have ev0 := hf.val 4 167 _ z0 (by kernel_rfl) (by kernel_rfl) (by kernel_rfl); clear z0; clear hd hf; intro K hK; go_simp; exact hK.out _ _ (Ext.refl _) y0 (FreshIf.no rfl) }) ?_
    refine RgAll.cons (by { (with_reducible refine RgL.mk (by rfl) ?_); intro v a w' hE hd hf; have d0 : (IsT2 (IsV (.int .i64 0)) (IsV (.bool false))) (v 4) w' := hd 4 (by kernel_rfl); obtain ⟨x0, x1, z0, y0, y1⟩ := d0; have ev0 := hf.val 4 167 _ z0 (by kernel_rfl) (by kernel_rfl) (by kernel_rfl); clear z0; clear hd hf; intro K hK; go_simp; exact hK.out _ _ (Ext.refl _) y1 (FreshIf.no rfl) }) ?_
    refine RgAll.cons (by { (with_reducible refine RgL.mk (by rfl) ?_); intro v a w' hE hd hf; have d0 : v 5 = .int .i64 0 := hd 5 (by kernel_rfl); have ev0 := hf.val 5 172 _ d0 (by kernel_rfl) (by kernel_rfl) (by kernel_rfl); clear d0; clear hd hf; intro K hK; go_simp; exact hK.out _ _ (Ext.refl _) rfl (FreshIf.no rfl) }) ?_
    refine RgAll.cons (by { (with_reducible refine RgL.mk (by rfl) ?_); intro v a w' hE hd hf; have d0 : v 6 = .bool false := hd 6 (by kernel_rfl); have ev0 := hf.val 6 173 _ d0 (by kernel_rfl) (by kernel_rfl) (by kernel_rfl); clear d0; clear hd hf; intro K hK; go_simp; exact hK.out _ _ (Ext.refl _) rfl (FreshIf.no rfl) }) ?_
    exact RgAll.nil
  intro v W25 e1 hΦ _
  replace S := S.mono e1
  have v8 : v 8 = .bool false := hΦ 8 (by decide)
  simp only [layL, Act.put, List.setIfInBounds_toArray, List.set_cons_zero, List.set_cons_succ, Nat.reduceAdd]
  rw [v8]
  clear v8
  clear hΦ
  clear e1
  refine wpAny_done (by kernel_rfl) ?_ _
  go_upto_region 24 with (fail)
  refine wp_region_rgs 20 [some 174, some 175, some 176, some 177, some 178, some 179, some 180, some 181, some 182, some 183, some 184, some 185, some 186, some 187, some 188, some 189, some 190, some 191, some 192, some 193] [IsV (.bool true), IsV (.bool false), IsV (.bool false), IsV (.bool true), IsV (.bool false), IsV (.bool false), IsV (.bool false), IsV (.bool false), IsV (.bool false), IsV (.bool false), IsV (.bool false), IsV (.bool false), IsV (.bool false), IsV (.int .i64 9223372036854775807), IsV (.bool false), IsV (.bool false), IsV (.bool false), IsV (.int .i64 (-9223372036854775808)), IsV (.bool false), IsV (.bool false)] [] (by decide) (by kernel_rfl) (by kernel_rfl) (by kernel_rfl) ?_ ?_ ?_ ?_
  · repeat' (first | exact trivial | exact IsV.stb _ | exact IsW.stb _ | exact IsWk.stb _ _ | exact IsI.stb _ _ | exact IsB.stb _ | exact IsR.stb _ _ | exact IsMag.stb _ _ | exact IsPos.stb | apply IsT3.stb | apply IsT2.stb | apply And.intro)
  · exact (fun _ h => by cases h)
  · refine RgAll.cons (by { (with_reducible refine RgL.mk (by rfl) ?_); intro v a w' hE hd hf; have ev0 := hf.lit 26 (.bool true) (by kernel_rfl) (by kernel_rfl); clear hd hf; intro K hK; go_simp; exact hK.out _ _ (Ext.refl _) rfl (FreshIf.no rfl) }) ?_
    refine RgAll.cons (by { (with_reducible refine RgL.mk (by rfl) ?_); intro v a w' hE hd hf; have d0 : v 0 = .bool true := hd 0 (by kernel_rfl); have ev0 := hf.val 0 174 _ d0 (by kernel_rfl) (by kernel_rfl) (by kernel_rfl); clear d0; clear hd hf; intro K hK; go_simp; exact hK.out _ _ (Ext.refl _) rfl (FreshIf.no rfl) }) ?_
    refine RgAll.cons (by { (with_reducible refine RgL.mk (by rfl) ?_); intro v a w' hE hd hf; have d0 : v 1 = .bool false := hd 1 (by kernel_rfl); have ev0 := hf.val 1 175 _ d0 (by kernel_rfl) (by kernel_rfl) (by kernel_rfl); clear d0; clear hd hf; intro K hK; go_simp; exact hK.out _ _ (Ext.refl _) rfl (FreshIf.no rfl) }) ?_
    refine RgAll.cons (by { (with_reducible refine RgL.mkG 2 176 false (by rfl) (by kernel_rfl) (by kernel_rfl) (by kernel_rfl) (by kernel_rfl) (by kernel_rfl) ?_ ?_); (focus (intro _ _ h; exact h)); intro v a w' hE hd hf; have ev0 := hf.lit 28 (.bool true) (by kernel_rfl) (by kernel_rfl); clear hd hf; intro K hK; go_simp; exact hK.out _ _ (Ext.refl _) rfl (FreshIf.no rfl) }) ?_
    refine RgAll.cons (by { (with_reducible refine RgL.mkG 2 176 false (by rfl) (by kernel_rfl) (by kernel_rfl) (by kernel_rfl) (by kernel_rfl) (by kernel_rfl) ?_ ?_); (focus (intro _ _ h; exact h)); intro v a w' hE hd hf; have d0 : v 3 = .bool true := hd 3 (by kernel_rfl); have ev0 := hf.val 3 177 _ d0 (by kernel_rfl) (by kernel_rfl) (by kernel_rfl); clear d0; clear hd hf; intro K hK; go_simp; exact hK.out _ _ (Ext.refl _) rfl (FreshIf.no rfl) }) ?_
    refine RgAll.cons (by { (with_reducible refine RgL.mk (by rfl) ?_); intro v a w' hE hd hf; have d0 : v 2 = .bool false := hd 2 (by kernel_rfl); have ev0 := hf.val 2 176 _ d0 (by kernel_rfl) (by kernel_rfl) (by kernel_rfl); clear d0; have d1 : v 4 = .bool false := hd 4 (by kernel_rfl); have ev1 := hf.val 4 178 _ d1 (by kernel_rfl) (by kernel_rfl) (by kernel_rfl); clear d1; clear hd hf; intro K hK; go_simp; exact hK.out _ _ (Ext.refl _) rfl (FreshIf.no rfl) }) ?_
    refine RgAll.cons (by { (with_reducible refine RgL.mk (by rfl) ?_); intro v a w' hE hd hf; have d0 : v 5 = .bool false := hd 5 (by kernel_rfl); have ev0 := hf.val 5 179 _ d0 (by kernel_rfl) (by kernel_rfl) (by kernel_rfl); clear d0; clear hd hf; intro K hK; go_simp; exact hK.out _ _ (Ext.refl _) rfl (FreshIf.no rfl) }) ?_
    refine RgAll.cons (by { (with_reducible refine RgL.mkG 6 180 false (by rfl) (by kernel_rfl) (by kernel_rfl) (by kernel_rfl) (by kernel_rfl) (by kernel_rfl) ?_ ?_); (focus (intro _ _ h; exact h)); intro v a w' hE hd hf; have ev0 := hf.lit 30 (.bool false) (by kernel_rfl) (by kernel_rfl); clear hd hf; intro K hK; go_simp; exact hK.out _ _ (Ext.refl _) rfl (FreshIf.no rfl) }) ?_
    refine RgAll.cons (by { (with_reducible refine RgL.mk (by rfl) ?_); intro v a w' hE hd hf; have d0 : v 6 = .bool false := hd 6 (by kernel_rfl); have ev0 := hf.val 6 180 _ d0 (by kernel_rfl) (by kernel_rfl) (by kernel_rfl); clear d0; have d1 : v 7 = .bool false := hd 7 (by kernel_rfl); have ev1 := hf.val 7 181 _ d1 (by kernel_rfl) (by kernel_rfl) (by kernel_rfl); clear d1; clear hd hf; intro K hK; go_simp; exact hK.out _ _ (Ext.refl _) rfl (FreshIf.no rfl) }) ?_
    refine RgAll.cons (by { (with_reducible refine RgL.mk (by rfl) ?_); intro v a w' hE hd hf; have d0 : v 8 = .bool false := hd 8 (by kernel_rfl); have ev0 := hf.val 8 182 _ d0 (by kernel_rfl) (by kernel_rfl) (by kernel_rfl); clear d0; clear hd hf; intro K hK; go_simp; exact hK.out _ _ (Ext.refl _) rfl (FreshIf.no rfl) }) ?_
    refine RgAll.cons (by { (with_reducible refine RgL.mkG 9 183 false (by rfl) (by kernel_rfl) (by kernel_rfl) (by kernel_rfl) (by kernel_rfl) (by kernel_rfl) ?_ ?_); (focus (intro _ _ h; exact h)); intro v a w' hE hd hf; have ev0 := hf.lit 32 (.bool false) (by kernel_rfl) (by kernel_rfl); clear hd hf; intro K hK; go_simp; exact hK.out _ _ (Ext.refl _) rfl (FreshIf.no rfl) }) ?_
    refine RgAll.cons (by { (with_reducible refine RgL.mk (by rfl) ?_); intro v a w' hE hd hf; have d0 : v 9 = .bool false := hd 9 (by kernel_rfl); have ev0 := hf.val 9 183 _ d0 (by kernel_rfl) (by kernel_rfl) (by kernel_rfl); clear d0; have d1 : v 10 = .bool false := hd 10 (by kernel_rfl); have ev1 := hf.val 10 184 _ d1 (by kernel_rfl) (by kernel_rfl) (by kernel_rfl); clear d1; clear hd hf; intro K hK; go_simp; exact hK.out _ _ (Ext.refl _) rfl (FreshIf.no rfl) }) ?_
    refine RgAll.cons (by { (with_reducible refine RgL.mk (by rfl) ?_); intro v a w' hE hd hf; have d0 : v 11 = .bool false := hd 11 (by kernel_rfl); have ev0 := hf.val 11 185 _ d0 (by kernel_rfl) (by kernel_rfl) (by kernel_rfl); clear d0; clear hd hf; intro K hK; go_simp; exact hK.out _ _ (Ext.refl _) rfl (FreshIf.no rfl) }) ?_
    refine RgAll.cons (by { (with_reducible refine RgL.mkG 12 186 false (by rfl) (by kernel_rfl) (by kernel_rfl) (by kernel_rfl) (by kernel_rfl) (by kernel_rfl) ?_ ?_); (focus (intro _ _ h; exact h)); intro v a w' hE hd hf; have ev0 := hf.lit 25 (.int .i64 9223372036854775807) (by kernel_rfl) (by kernel_rfl); clear hd hf; intro K hK; go_simp; exact hK.out _ _ (Ext.refl _) rfl (FreshIf.no rfl) }) ?_
    refine RgAll.cons (by { (with_reducible refine RgL.mkG 12 186 false (by rfl) (by kernel_rfl) (by kernel_rfl) (by kernel_rfl) (by kernel_rfl) (by kernel_rfl) ?_ ?_); (focus (intro _ _ h; exact h)); intro v a w' hE hd hf; have d0 : v 13 = .int .i64 9223372036854775807 := hd 13 (by kernel_rfl); have ev0 := hf.val 13 187 _ d0 (by kernel_rfl) (by kernel_rfl) (by kernel_rfl); clear d0; clear hd hf; intro K hK; go_simp; exact hK.out _ _ (Ext.refl _) rfl (FreshIf.no rfl) }) ?_
    refine RgAll.cons (by { (with_reducible refine RgL.mk (by rfl) ?_); intro v a w' hE hd hf; have d0 : v 12 = .bool false := hd 12 (by kernel_rfl); have ev0 := hf.val 12 186 _ d0 (by kernel_rfl) (by kernel_rfl) (by kernel_rfl); clear d0; have d1 : v 14 = .bool false := hd 14 (by kernel_rfl); have ev1 := hf.val 14 188 _ d1 (by kernel_rfl) (by kernel_rfl) (by kernel_rfl); clear d1; clear hd hf; intro K hK; go_simp; exact hK.out _ _ (Ext.refl _) rfl (FreshIf.no rfl) }) ?_
    refine RgAll.cons (by { (with_reducible refine RgL.mk (by rfl) ?_); intro v a w' hE hd hf; have d0 : v 15 = .bool false := hd 15 (by kernel_rfl); have ev0 := hf.val 15 189 _ d0 (by kernel_rfl) (by kernel_rfl) (by kernel_rfl); clear d0; clear hd hf; intro K hK; go_simp; exact hK.out _ _ (Ext.refl _) rfl (FreshIf.no rfl) }) ?_
    refine RgAll.cons (by { (with_reducible refine RgL.mkG 16 190 false (by rfl) (by kernel_rfl) (by kernel_rfl) (by kernel_rfl) (by kernel_rfl) (by kernel_rfl) ?_ ?_); (focus (intro _ _ h; exact h)); intro v a w' hE hd hf; have ev0 := hf.lit 27 (.int .i64 (-9223372036854775808)) (by kernel_rfl) (by kernel_rfl); clear hd hf; intro K hK; go_simp; exact hK.out _ _ (Ext.refl _) rfl (FreshIf.no rfl) }) ?_
    refine RgAll.cons (by { (with_reducible refine RgL.mkG 16 190 false (by rfl) (by kernel_rfl) (by kernel_rfl) (by kernel_rfl) (by kernel_rfl) (by kernel_rfl) ?_ ?_); (focus (intro _ _ h; exact h)); intro v a w' hE hd hf; have d0 : v 17 = .int .i64 (-9223372036854775808) := hd 17 (by kernel_rfl); have ev0 := hf.val 17 191 _ d0 (by kernel_rfl) (by kernel_rfl) (by kernel_rfl); clear d0; clear hd hf; intro K hK; go_simp; exact hK.out _ _ (Ext.refl _) rfl (FreshIf.no rfl) }) ?_
    refine RgAll.cons (by { (with_reducible refine RgL.mk (by rfl) ?_); intro v a w' hE hd hf; have d0 : v 16 = .bool false := hd 16 (by kernel_rfl); have ev0 := hf.val 16 190 _ d0 (by kernel_rfl) (by kernel_rfl) (by kernel_rfl); clear d0; have d1 : v 18 = .bool false := hd 18 (by kernel_rfl); have ev1 := hf.val 18 192 _ d1 (by kernel_rfl) (by kernel_rfl) (by kernel_rfl); clear d1; clear hd hf; intro K hK; go_simp; exact hK.out _ _ (Ext.refl _) rfl (FreshIf.no rfl) }) ?_
    exact RgAll.nil
  intro v W26 e1 hΦ _
  replace S := S.mono e1
  have v19 : v 19 = .bool false := hΦ 19 (by decide)
  simp only [layL, Act.put, List.setIfInBounds_toArray, List.set_cons_zero, List.set_cons_succ, Nat.reduceAdd]
  rw [v19]
  clear v19
  clear hΦ
  clear e1
  refine wpList_nil ?_
  go_upto_region 26 with (fail)
  refine wp_region_rg 9 [some 194, some 195, some 196, some 197, some 198, some 199, some 200, some 201, some 6] [IsV (.bool true), IsV (.bool true), IsR s3 x3, IsV (.bool vb), IsR s3 x3, IsV (.bool vb), IsV (.bool true), IsV (.bool true), IsV (.bool true)] [] 0 (by kernel_rfl) (by decide) (by kernel_rfl) (by kernel_rfl) (by kernel_rfl) (by kernel_rfl) (by kernel_rfl) ?_ ?_ ?_ ?_
  · repeat' (first | exact trivial | exact IsV.stb _ | exact IsW.stb _ | exact IsWk.stb _ _ | exact IsI.stb _ _ | exact IsB.stb _ | exact IsR.stb _ _ | exact IsMag.stb _ _ | exact IsPos.stb | apply IsT3.stb | apply IsT2.stb | apply And.intro)
  · exact (fun _ h => by cases h)
  · refine RgAll.cons (by { (with_reducible refine RgL.mk (by rfl) ?_); intro v a w' hE hd hf; have ev0 := hf.lit 7 (.bool true) (by kernel_rfl) (by kernel_rfl); clear hd hf; intro K hK; go_simp; exact hK.out _ _ (Ext.refl _) rfl (FreshIf.no rfl) }) ?_
    refine RgAll.cons (by { (with_reducible refine RgL.mk (by rfl) ?_); intro v a w' hE hd hf; have d0 : v 0 = .bool true := hd 0 (by kernel_rfl); have ev0 := hf.val 0 194 _ d0 (by kernel_rfl) (by kernel_rfl) (by kernel_rfl); clear d0; clear hd hf; intro K hK; go_simp; exact hK.out _ _ (Ext.refl _) rfl (FreshIf.no rfl) }) ?_
    refine RgAll.cons (by { (with_reducible refine RgL.mkG 1 195 true (by rfl) (by kernel_rfl) (by kernel_rfl) (by kernel_rfl) (by kernel_rfl) (by kernel_rfl) ?_ ?_); (focus (intro _ _ h; exact h)); intro v a w' hE hd hf; have ev0 := hf.lit 5 (.pointer (some ⟨w.heap.size, 0, none⟩)) (by kernel_rfl) (by kernel_rfl); obtain ⟨s8, a8, n8, c8, b8, h8⟩ := (S.mono hE).at 6 (w.heap.size) (IsR s3 x3) rfl; have L0 := b8.c0; have L1 := b8.c1; clear hd hf; intro K hK; go_simp; exact hK.out _ _ (Ext.refl _) h8 (FreshIf.no rfl) }) ?_
    refine RgAll.cons (by { (with_reducible refine RgL.mkG 1 195 true (by rfl) (by kernel_rfl) (by kernel_rfl) (by kernel_rfl) (by kernel_rfl) (by kernel_rfl) ?_ ?_); (focus (intro _ _ h; exact h)); intro v a w' hE hd hf; have d0 : (IsR s3 x3) (v 2) w' := hd 2 (by kernel_rfl); have ev0 := hf.val 2 196 _ rfl (by kernel_rfl) (by kernel_rfl) (by kernel_rfl); clear hd hf; intro K hK; go_simp; go_at_call 30; go_split_ands; (with_reducible refine Calls.mono ((by have hh := ValidR_f d0; rw [HV.out] at hh; exact hh)) ?_); rintro e w2 ⟨x, rfl, e2, hx⟩; exact hK.out _ _ e2 hx (FreshIf.no rfl) }) ?_
    refine RgAll.cons (by { (with_reducible refine RgL.mkG 1 195 true (by rfl) (by kernel_rfl) (by kernel_rfl) (by kernel_rfl) (by kernel_rfl) (by kernel_rfl) ?_ ?_); (focus (intro _ _ h; exact h)); intro v a w' hE hd hf; have ev0 := hf.lit 5 (.pointer (some ⟨w.heap.size, 0, none⟩)) (by kernel_rfl) (by kernel_rfl); obtain ⟨s8, a8, n8, c8, b8, h8⟩ := (S.mono hE).at 6 (w.heap.size) (IsR s3 x3) rfl; have L0 := b8.c0; have L1 := b8.c1; clear hd hf; intro K hK; go_simp; exact hK.out _ _ (Ext.refl _) h8 (FreshIf.no rfl) }) ?_
    refine RgAll.cons (by { (with_reducible refine RgL.mkG 1 195 true (by rfl) (by kernel_rfl) (by kernel_rfl) (by kernel_rfl) (by kernel_rfl) (by kernel_rfl) ?_ ?_); (focus (intro _ _ h; exact h)); intro v a w' hE hd hf; have d0 : (IsR s3 x3) (v 4) w' := hd 4 (by kernel_rfl); have ev0 := hf.val 4 198 _ rfl (by kernel_rfl) (by kernel_rfl) (by kernel_rfl); clear hd hf; intro K hK; go_simp; go_at_call 31; go_split_ands; (with_reducible refine Calls.mono ((by have hh := RValidR_f d0; rw [HV.out] at hh; exact hh)) ?_); rintro e w2 ⟨x, rfl, e2, hx⟩; exact hK.out _ _ e2 hx (FreshIf.no rfl) }) ?_
    refine RgAll.cons (by { (with_reducible refine RgL.mkG 1 195 true (by rfl) (by kernel_rfl) (by kernel_rfl) (by kernel_rfl) (by kernel_rfl) (by kernel_rfl) ?_ ?_); (focus (intro _ _ h; exact h)); intro v a w' hE hd hf; have d0 : v 3 = .bool vb := hd 3 (by kernel_rfl); have ev0 := hf.val 3 197 _ d0 (by kernel_rfl) (by kernel_rfl) (by kernel_rfl); clear d0; have d1 : v 5 = .bool vb := hd 5 (by kernel_rfl); have ev1 := hf.val 5 199 _ d1 (by kernel_rfl) (by kernel_rfl) (by kernel_rfl); clear d1; clear hd hf; intro K hK; go_simp; exact hK.out _ _ (Ext.refl _) rfl (FreshIf.no rfl) }) ?_
    refine RgAll.cons (by { (with_reducible refine RgL.mk (by rfl) ?_); intro v a w' hE hd hf; have d0 : v 1 = .bool true := hd 1 (by kernel_rfl); have ev0 := hf.val 1 195 _ d0 (by kernel_rfl) (by kernel_rfl) (by kernel_rfl); clear d0; have d1 : v 6 = .bool true := hd 6 (by kernel_rfl); have ev1 := hf.val 6 200 _ d1 (by kernel_rfl) (by kernel_rfl) (by kernel_rfl); clear d1; clear hd hf; intro K hK; go_simp; exact hK.out _ _ (Ext.refl _) rfl (FreshIf.no rfl) }) ?_
    refine RgAll.cons (by { (with_reducible refine RgL.mk (by rfl) ?_); intro v a w' hE hd hf; have d0 : v 7 = .bool true := hd 7 (by kernel_rfl); have ev0 := hf.val 7 201 _ d0 (by kernel_rfl) (by kernel_rfl) (by kernel_rfl); clear d0; clear hd hf; intro K hK; go_simp; exact hK.out _ _ (Ext.refl _) rfl (FreshIf.no rfl) }) ?_
    exact RgAll.nil
  intro v W27 e1 hΦ _
  replace S := S.mono e1
  have v8 : v 8 = .bool true := hΦ 8 (by decide)
  simp only [layL, Act.put, List.setIfInBounds_toArray, List.set_cons_zero, List.set_cons_succ, Nat.reduceAdd]
  rw [v8]
  clear v8
  clear hΦ
  clear e1
  refine wpAny_done (by kernel_rfl) ?_ _
  go_wp2_with fail
  exact bodyPost_ret (v := .bool true) (by simp [results, Tryd.results8, go_sem]) rfl (⟨_, rfl, S.ext, rfl⟩)

theorem Small_c (w : World) (xx yy : Int) (s3 : Bool) (a3 : Option Addr) (n3 c3 : Nat) (x3 : List Nat) (h3 : Wd w a3 n3 c3 x3) (ht : Tab w) (lx : -2147483648 ≤ xx) (ux : xx ≤ 2147483647) (ly : -2147483648 ≤ yy) (uy : yy ≤ 2147483647) :
    Calls Tryd.prog 8 #[.int .i32 xx, .int .i32 yy, .agg #[.bool s3, .slice a3 n3 c3]] w (Ret w (IsV (.bool true))) := by
  by_cases hz : yy = 0
  · exact Small_0 w xx yy s3 a3 n3 c3 x3 h3 ht lx ux ly uy hz
  · exact Small_1 w xx yy s3 a3 n3 c3 x3 h3 ht lx ux ly uy hz
end Go.Proofs.YtpflfagjkmeeiaaDoor
namespace Go.Proofs.YtpflfagjkmeeiaaDoor
open Go Go.RowKit Go.ChangeShapes Go.WideShapes Go.ChangeAt

theorem wf_i32 (n : Int) (h : (Lit.int .i32 n).wf = true) : -2147483648 ≤ n ∧ n ≤ 2147483647 := by
  simp only [Lit.wf, Bool.and_eq_true, decide_eq_true_eq] at h
  have h1 : IntKind.min .i32 = -2147483648 := rfl
  have h2 : IntKind.max .i32 = 2147483647 := rfl
  rw [h1, h2] at h
  exact h
section
variable {H : Type} {enc : TypeId × Value → H}
set_option maxRecDepth 100000 in
theorem api_open {W : World} {b0 : Nat} {r : Reach} {v : Value} {d : DataW H} {p : List MemPlace} (hv : Value.okWide Tryd.prog W r b0 27 v) (h : DataW.Trod enc Tryd.prog W 0 (fun _ => true) true 27 v d p) :
    ∃ s ao n cap xs, v = .agg #[.bool s, .slice ao n cap] ∧ Wd W ao n cap xs ∧ Reads enc W 27 v d p := by
  obtain ⟨v0, v1, y0, y1, n, rfl, rfl, rfl, h0, h1⟩ := Joins.open_agg2 Tryd.underlying27 (by kernel_rfl) (by kernel_rfl) hv h
  obtain ⟨s, hs, rfl⟩ := DataW.trod_bool (by kernel_rfl) h0
  simp only [List.cons.injEq, and_true] at hs
  subst hs
  obtain ⟨ao, m, cap, xs, rfl, hw, hr⟩ := words_open (by kernel_rfl) h1
  refine ⟨s, ao, m, cap, xs, rfl, hw, fun W' sp hb hsp => ?_⟩
  exact Joins.shut_agg2 Tryd.underlying27 (by kernel_rfl) (by kernel_rfl) (by
    obtain ⟨k, hk⟩ := shut_bool (enc := enc) (P := Tryd.prog) (w := W') (base := 0) (spare := sp) (held := true) (t := 4) (by kernel_rfl) s
    exact ⟨k, by simpa [Value.cells] using hk⟩) (hr W' sp hb (fun q hq => hsp q (by simpa using hq)))
end
set_option maxRecDepth 100000 in
theorem integerSmall_lifted (os : Os) (started : os.Started) (H : Type) (enc : TypeId × Value → H) :
    ReturnsInHanded {} Tryd.checked os 8 .any (fun w args => (Rows.integerSmallSpec.pre enc Tryd.prog Tryd.f8 [] false w args ∧ laidMetH Tryd.prog laid3 w) ∧ sizedMet enc Tryd.prog Tryd.f8 (OpenSpec.ofChange Rows.integerSmallSpec) false w args)
      (Rows.integerSmallSpec.post enc Tryd.prog Tryd.f8 false true false false) := by
  refine returnsInHanded_of_change_and (C := Tryd.checked) (X := fun w _ => laidMetH Tryd.prog laid3 w) (fun _ _ _ hh h => h.of_heap hh) own started (by kernel_rfl) Tryd.func8
    (ChangeSpec.witness_shaped (enc := enc) (C := Tryd.checked) (os := os) (X := fun w _ => laidMetH Tryd.prog laid3 w) false (World.doorLaid Tryd.prog 2000 os) #[.int .i32 0, .int .i32 0, .agg #[.bool false, .slice none 0 0]] 8 rfl (World.shaped_of_RefB (by kernel_rfl) (by kernel_rfl)) (by kernel_rfl) (by kernel_rfl) (by kernel_rfl) (door_met os _)) ?_
  intro W base args ds gs before hval0 hW _ _ hL _
  have hval : ∀ (j : Nat) t v, Tryd.f8.params[j]? = some t → args[j]? = some v → Value.okWide Tryd.prog W .any base t v := hval0
  have hW' := hW
  obtain ⟨p, q, hA0, hV, rfl, hfz, hnd⟩ := hW
  have hA : DataW.TrodAll enc Tryd.prog W 0 (fun _ => true) true Tryd.f8.params.toList args.toList ds p := hA0
  rw [Tryd.params8] at hA hval
  obtain ⟨v1, v2, v3, d1, d2, d3, p1, p2, p3, rfl, rfl, rfl, k1, k2, k3⟩ := trodAll_three hA
  obtain ⟨rfl, rfl⟩ := trodVars_none hV
  obtain ⟨m1, rfl, rfl, rfl, hw1⟩ := open_int Tryd.underlying21 (hval 0 21 v1 rfl rfl) k1
  obtain ⟨m2, rfl, rfl, rfl, hw2⟩ := open_int Tryd.underlying21 (hval 1 21 v2 rfl rfl) k2
  obtain ⟨s3, a3, n3, c3, x3, rfl, w3, r3⟩ := api_open (hval 2 27 v3 rfl rfl) k3
  clear hA0 hval0
  have y1 := wf_i32 _ hw1
  have y2 := wf_i32 _ hw2
  refine (Small_c W m1 m2 s3 a3 n3 c3 x3 w3 (tab_of_laid hL) y1.1 y1.2 y2.1 y2.2).mono fun e W' ⟨x, he, hb, hx⟩ => ?_
  have hx : x = .bool true := hx
  subst he; subst hx
  refine ⟨_, rfl, post_of_below (pa := [] ++ ([] ++ p3)) (pv := []) hW' (fun _ _ _ => trodAll_mk1 (shut_bool Tryd.underlying4 true)) (fun sp hsp => ?_) (fun _ _ => rfl) (by simp) hb (ok_one (by kernel_rfl) rfl (okWide_bool_mk Tryd.underlying4 _))⟩
  rw [Tryd.params8]
  exact trodAll_mk3 (shut_int Tryd.underlying21 hw1) (shut_int Tryd.underlying21 hw2) (r3 W' sp hb fun q hq => hsp q (by simp [hq]))

theorem integerSmall_row : Rows.IntegerSmallSaid :=
  OpenClaim.holds_of_wide 8 Tryd.f8 rfl rfl rfl rfl rfl rfl rfl ⟨rfl, rfl, rfl, rfl, rfl⟩ rfl rfl rfl rfl rfl (by kernel_rfl) Tryd.func8 (by kernel_rfl)
    (of_decide_eq_true (by kernel_rfl)) (by unfold Func.isWrapper; first | (rw [if_pos (by decide +kernel)]; kernel_rfl) | (rw [if_neg (by decide +kernel)]; exact ⟨rfl, rfl⟩))
    (fun os started H enc _ => integerSmall_lifted os started H enc)

set_option maxRecDepth 100000 in
/-- The tied card. -/
theorem integerSmall_holds : Rows.IntegerSmallCardSaid :=
  Claim7.holds_tied_plain_at .later [] [.data, .data, .data] true Rows.integerSmallCard.stood.harness false
    integerSmall_row (fun _ h => by cases h) (by kernel_rfl) (fun _ h => by cases h) integerSmall_row_tie rfl ⟨rfl, rfl⟩ (by kernel_rfl) rfl
    (fun f fn hf hfn => by
      obtain rfl : f = 8 := Option.some.inj ((show Tryd.prog.funcNamed "algorist/algoristlaw01.IntegerSmall" = some 8 by kernel_rfl).symm.trans hf) |>.symm
      obtain rfl : fn = Tryd.f8 := (Option.some.inj (Tryd.func8.symm.trans hfn)).symm
      refine ⟨by kernel_rfl, fun j t ht => ?_⟩
      rw [Tryd.params8] at ht
      have h3 : t = 21 ∨ t = 27 := by
        rcases j with _ | _ | _ | j
        · left; simpa using ht.symm
        · left; simpa using ht.symm
        · right; simpa using ht.symm
        · simp at ht
      rcases h3 with rfl | rfl
      · exact (show Tryd.prog.wantsStandIn 21 = false by kernel_rfl)
      · exact (show Tryd.prog.wantsStandIn 27 = false by kernel_rfl))
    (by kernel_rfl)
#print axioms integerSmall_holds
end Go.Proofs.YtpflfagjkmeeiaaDoor
