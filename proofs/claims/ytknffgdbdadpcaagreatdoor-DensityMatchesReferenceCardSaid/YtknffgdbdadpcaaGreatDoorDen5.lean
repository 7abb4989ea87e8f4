/-
 Reference of packages count and density: refused, Is, Edge. (Printed by wip/gen/den4.py.)
 Reference of package count: Split. (Printed by wip/gen/den5.py.)
-/
import Derived.Test.YtknffgdbdadpcaaGreatDoorDen2
import Derived.Test.YtknffgdbdadpcaaGreatDoorRGcd
namespace Go.Proofs.YtknffgdbdadpcaaGreatDoor
open Go Go.RowKit

set_option maxRecDepth 100000 in
set_option maxHeartbeats 4000000 in
theorem rrefused_f {k1 n : Nat} {x : Value} {w : World} (hx : IsI k1 (-((n : Nat) : Int)) x w) (l1 : k1 ≤ 131072) (hn : 1 ≤ n ∧ n ≤ 4194304 ∧ (n % 4 = 0 ∨ n % 4 = 3)) : Calls Tryz.prog 63 #[x] w (Ret w (IsV (.int .i64 0))) := by
 have HK := hid l1
 obtain ⟨q, hq⟩ : ∃ x, (-((n : Nat) : Int)) / 4 = x := ⟨_, rfl⟩
 obtain ⟨r, hr⟩ : ∃ x, (-((n : Nat) : Int)) % 4 = x := ⟨_, rfl⟩
 have HQR := hid (And.intro hq hr)
 have hr1 : r ≤ 1 := by omega
 have HSG := hid (show (-((n : Nat) : Int)).sign = -1 from Int.sign_eq_neg_one_of_neg (by omega))
 obtain ⟨cq, hcq⟩ : ∃ x, cmpI r 1 = x := ⟨_, rfl⟩
 have HC1 := hid hcq
 have HC1B := hid (show decide (0 < cq) = false by
  rw [← hcq, decide_eq_false_iff_not]; unfold cmpI
  split
  ·decide
  ·rw [if_neg (by omega)]; decide)
 obtain ⟨cr, hcr⟩ : ∃ x, cmpI (-((n : Nat) : Int)) (-4194304) = x := ⟨_, rfl⟩
 have HC2 := hid hcr
 have HC2B := hid (show decide (cr < 0) = false by
  rw [← hcr, decide_eq_false_iff_not]; unfold cmpI
  rw [if_neg (by omega)]
  split <;> decide)
 clear l1 hn hq hr hr1 hcq hcr
 obtain ⟨s1, a1, n1, c1, rfl, h1⟩ := hx
 have h1 : IsI _ _ _ w := ⟨_, _, _, _, rfl, h1⟩
 obtain ⟨W, hW, S⟩ : ∃ W, W = w.alloc (.cells #[.bool s1, .slice a1 n1 c1] 33) ∧ Sto w W [((w.heap.size, 0), IsI k1 (-((n : Nat) : Int)))] := ⟨_, rfl, ((Sto.start w).new1 (w.heap.size) (by simp) s1 a1 n1 c1 33 (IsI k1 (-((n : Nat) : Int))) (IsI.gstb _ _) (h1))⟩
 clear h1
 go_enter Tryz.func63, Tryz.ntmps63
 go_upto_region 1 with (fail)
 rw [← hW]
 clear hW
 refine rg 11 [some 3, some 4, some 5, some 6, some 7, some 8, some 9, some 10, some 11, some 12, some 13] [IsI k1 (-((n : Nat) : Int)), IsV (.int .i64 (-1)), IsV (.bool false), IsV (.bool false), IsI k1 (-((n : Nat) : Int)), IsI 2 4, IsI 2 r, IsI 2 1, IsV (.int .i64 cq), IsV (.bool false), IsV (.bool false)] [] 0 ?_ ?_
 ·refine Rc (ldI S 0 (w.heap.size) 0 (Od.lit 1) ld_Int) ?_
  refine Rc (cl1 (en Tryz.func65) (Od.lc (Φ := IsI k1 (-((n : Nat) : Int))) 0 3) (fun x0 w' hE d0 => Calls.mono (RSign_f d0) fun _ _ h => h.int HSG.out)) ?_
  refine Rc (bn (r := .bool false) (Od.loc 1 4) Od.con (hr := fun w => by go_simp)) ?_
  refine Rc (mv (Od.lc 2 5)) ?_
  refine RcG 3 6 false (ldI S 0 (w.heap.size) 0 (Od.lit 1) ld_Int) ?_
  refine RcG 3 6 false (cl1 (en Tryz.func22) Od.con (fun x0 w' hE d0 => by { obtain rfl : x0 = .int .i64 4 := d0; exact ROf_f _ 4 (by decide) (by decide) })) ?_
  refine RcG 3 6 false (cl2 (en Tryz.func94) (Od.lc (Φ := IsI k1 (-((n : Nat) : Int))) 4 7) (Od.lc (Φ := IsI 2 4) 5 8) (fun x0 x1 w' hE d0 d1 => Calls.mono (RMod_f d0 d1 (by have := HK.out; omega) (by decide) (by decide)) fun _ _ h => h.eqz HQR.out.2)) ?_
  refine RcG 3 6 false (cl1 (en Tryz.func22) Od.con (fun x0 w' hE d0 => by { obtain rfl : x0 = .int .i64 1 := d0; exact ROf_f _ 1 (by decide) (by decide) })) ?_
  refine RcG 3 6 false (cl2 (en Tryz.func31) (Od.lc (Φ := IsI 2 r) 6 9) (Od.lc (Φ := IsI 2 1) 7 10) (fun x0 x1 w' hE d0 d1 => Calls.mono (RCmp_f d0 d1 (by decide) (by decide)) fun _ _ h => h.int HC1.out)) ?_
  refine RcG 3 6 false (bn (r := .bool false) (Od.loc 8 11) Od.con (hr := fun w => by have hx9 := HC1B.out; go_simp)) ?_
  refine Rc (pk (Od.loc 3 6) (Od.lc 9 12)) ?_
  exact RgAll.nil
 intro v W1 e1 hΦ _
 replace S := S.mono e1
 have v10 : v 10 = .bool false := hΦ 10 (by decide)
 simp only [layL, Act.put, uAx, u0x, u1x, Nat.reduceAdd]
 rw [v10]
 clear v10 hΦ e1
 refine wpAny_done (by kernel_rfl) ?_ _
 go_upto_region 3 with (fail)
 refine rg 4 [some 14, some 15, some 16, some 17] [IsI k1 (-((n : Nat) : Int)), IsI 2 ((-4194304)), IsV (.int .i64 cr), IsV (.bool false)] [] 0 ?_ ?_
 ·refine Rc (ldI S 0 (w.heap.size) 0 (Od.lit 1) ld_Int) ?_
  refine Rc (cl1 (en Tryz.func22) Od.con (fun x0 w' hE d0 => by { obtain rfl : x0 = .int .i64 (-4194304) := d0; exact ROf_f _ ((-4194304)) (by decide) (by decide) })) ?_
  refine Rc (cl2 (en Tryz.func31) (Od.lc (Φ := IsI k1 (-((n : Nat) : Int))) 0 14) (Od.lc (Φ := IsI 2 ((-4194304))) 1 15) (fun x0 x1 w' hE d0 d1 => Calls.mono (RCmp_f d0 d1 (by have := HK.out; omega) (by decide)) fun _ _ h => h.int HC2.out)) ?_
  refine Rc (bn (r := .bool false) (Od.loc 2 16) Od.con (hr := fun w => by have hx9 := HC2B.out; go_simp)) ?_
  exact RgAll.nil
 intro v W2 e1 hΦ _
 replace S := S.mono e1
 have v3 : v 3 = .bool false := hΦ 3 (by decide)
 simp only [layL, Act.put, uAx, u0x, u1x, Nat.reduceAdd]
 rw [v3]
 clear v3 hΦ e1
 refine wpAny_done (by kernel_rfl) ?_ _
 go_upto_region 5 with (fail)
 refine rgs 1 [some 2] [IsV (.int .i64 0)] [] ?_ ?_
 ·refine Rc (mv Od.con) ?_
  exact RgAll.nil
 intro v W3 e1 hΦ _
 replace S := S.mono e1
 have v0 : v 0 = .int .i64 0 := hΦ 0 (by decide)
 simp only [layL, Act.put, uAx, u0x, u1x]
 rw [v0]
 clear v0 hΦ e1
 refine wpList_nil ?_
 go_wp2_with fail
 exact bodyPost_ret (v := .int .i64 0) (by simp [results, Tryz.results63, go_sem]) rfl (⟨_, rfl, S.ext, rfl⟩)

set_option maxRecDepth 100000 in
set_option maxHeartbeats 4000000 in
theorem Is_0 (w : World) (q g4 : Nat) (HP : Hid ((0 : Int) < ((q : Nat) : Int) ∧ 0 < q)) (HG : Hid (((q : Nat) : Int) % 4 = ((g4 : Nat) : Int) ∧ (((q : Nat) : Int)).tmod 4 = ((g4 : Nat) : Int))) (HG0 : Hid ((((g4 : Nat) : Int) == 0) = true)) : Calls Tryz.prog 156 #[.int .i64 ((q : Nat) : Int)] w (Ret w (IsV (.bool true))) := by
 obtain ⟨W, hW, S⟩ : ∃ W, W = w ∧ Sto w W [] := ⟨_, rfl, (Sto.start w)⟩
 go_enter Tryz.func156, Tryz.ntmps156
 go_upto_region 1 with (fail)
 rw [← hW]
 clear hW
 refine rgs 13 [some 3, some 4, some 5, some 6, some 7, some 8, some 9, some 10, some 11, some 12, some 13, some 14, some 2] [IsV (.int .i64 ((q : Nat) : Int)), IsV (.bool true), IsV (.bool true), IsV (.int .i64 ((q : Nat) : Int)), IsV (.int .i64 ((g4 : Nat) : Int)), IsV (.bool true), IsV (.bool true), IsV (undef), IsV (undef), IsV (undef), IsV (.bool true), IsV (.bool true), IsV (.bool true)] [] ?_ ?_
 ·refine Rc (mv (Od.lit 0)) ?_
  refine Rc (bn (r := .bool true) (Od.loc 0 3) Od.con (hr := fun w => by have hx9 := HP.out.1; have hx8 := HP.out.2; go_simp)) ?_
  refine Rc (mv (Od.lc 1 4)) ?_
  refine RcG 2 5 true (mv (Od.lit 0)) ?_
  refine RcG 2 5 true (bn (r := .int .i64 ((g4 : Nat) : Int)) (Od.loc 3 6) Od.con (hr := fun w => by have hx9 := HG.out.1; have hx8 := HG.out.2; go_simp)) ?_
  refine RcG 2 5 true (bn (r := .bool true) (Od.loc 4 7) Od.con (hr := fun w => by have hx9 := HG0.out; go_simp)) ?_
  refine RcG 2 5 true (mv (Od.lc 5 8)) ?_
  refine RcN 6 9 true ?_
  refine RcN 6 9 true ?_
  refine RcN 6 9 true ?_
  refine RcG 2 5 true (pk (Od.loc 6 9) Od.con) ?_
  refine Rc (pk (Od.loc 2 5) (Od.lc 10 13)) ?_
  refine Rc (mv (Od.lc 11 14)) ?_
  exact RgAll.nil
 intro v W1 e1 hΦ _
 replace S := S.mono e1
 have v12 : v 12 = .bool true := hΦ 12 (by decide)
 simp only [layL, Act.put, uAx, u0x, u1x, Nat.reduceAdd]
 rw [v12]
 clear v12 hΦ e1
 refine wpList_nil ?_
 go_wp2_with fail
 exact bodyPost_ret (v := .bool true) (by simp [results, Tryz.results156, go_sem]) rfl (⟨_, rfl, S.ext, rfl⟩)

set_option maxRecDepth 100000 in
set_option maxHeartbeats 4000000 in
theorem Is_3 (w : World) (q g4 : Nat) (HP : Hid ((0 : Int) < ((q : Nat) : Int) ∧ 0 < q)) (HG : Hid (((q : Nat) : Int) % 4 = ((g4 : Nat) : Int) ∧ (((q : Nat) : Int)).tmod 4 = ((g4 : Nat) : Int))) (HG0 : Hid ((((g4 : Nat) : Int) == 0) = false)) (HG3 : Hid ((((g4 : Nat) : Int) == 3) = true)) : Calls Tryz.prog 156 #[.int .i64 ((q : Nat) : Int)] w (Ret w (IsV (.bool true))) := by
 obtain ⟨W, hW, S⟩ : ∃ W, W = w ∧ Sto w W [] := ⟨_, rfl, (Sto.start w)⟩
 go_enter Tryz.func156, Tryz.ntmps156
 go_upto_region 1 with (fail)
 rw [← hW]
 clear hW
 refine rgs 13 [some 3, some 4, some 5, some 6, some 7, some 8, some 9, some 10, some 11, some 12, some 13, some 14, some 2] [IsV (.int .i64 ((q : Nat) : Int)), IsV (.bool true), IsV (.bool true), IsV (.int .i64 ((q : Nat) : Int)), IsV (.int .i64 ((g4 : Nat) : Int)), IsV (.bool false), IsV (.bool false), IsV (.int .i64 ((q : Nat) : Int)), IsV (.int .i64 ((g4 : Nat) : Int)), IsV (.bool true), IsV (.bool true), IsV (.bool true), IsV (.bool true)] [] ?_ ?_
 ·refine Rc (mv (Od.lit 0)) ?_
  refine Rc (bn (r := .bool true) (Od.loc 0 3) Od.con (hr := fun w => by have hx9 := HP.out.1; have hx8 := HP.out.2; go_simp)) ?_
  refine Rc (mv (Od.lc 1 4)) ?_
  refine RcG 2 5 true (mv (Od.lit 0)) ?_
  refine RcG 2 5 true (bn (r := .int .i64 ((g4 : Nat) : Int)) (Od.loc 3 6) Od.con (hr := fun w => by have hx9 := HG.out.1; have hx8 := HG.out.2; go_simp)) ?_
  refine RcG 2 5 true (bn (r := .bool false) (Od.loc 4 7) Od.con (hr := fun w => by have hx9 := HG0.out; go_simp)) ?_
  refine RcG 2 5 true (mv (Od.lc 5 8)) ?_
  refine RcG 6 9 false (mv (Od.lit 0)) ?_
  refine RcG 6 9 false (bn (r := .int .i64 ((g4 : Nat) : Int)) (Od.loc 7 10) Od.con (hr := fun w => by have hx9 := HG.out.1; have hx8 := HG.out.2; go_simp)) ?_
  refine RcG 6 9 false (bn (r := .bool true) (Od.loc 8 11) Od.con (hr := fun w => by have hx9 := HG3.out; go_simp)) ?_
  refine RcG 2 5 true (pk (Od.loc 6 9) (Od.lc 9 12)) ?_
  refine Rc (pk (Od.loc 2 5) (Od.lc 10 13)) ?_
  refine Rc (mv (Od.lc 11 14)) ?_
  exact RgAll.nil
 intro v W1 e1 hΦ _
 replace S := S.mono e1
 have v12 : v 12 = .bool true := hΦ 12 (by decide)
 simp only [layL, Act.put, uAx, u0x, u1x, Nat.reduceAdd]
 rw [v12]
 clear v12 hΦ e1
 refine wpList_nil ?_
 go_wp2_with fail
 exact bodyPost_ret (v := .bool true) (by simp [results, Tryz.results156, go_sem]) rfl (⟨_, rfl, S.ext, rfl⟩)

set_option maxRecDepth 100000 in
set_option maxHeartbeats 4000000 in
theorem Is_x (w : World) (q g4 : Nat) (HP : Hid ((0 : Int) < ((q : Nat) : Int) ∧ 0 < q)) (HG : Hid (((q : Nat) : Int) % 4 = ((g4 : Nat) : Int) ∧ (((q : Nat) : Int)).tmod 4 = ((g4 : Nat) : Int))) (HG0 : Hid ((((g4 : Nat) : Int) == 0) = false)) (HG3 : Hid ((((g4 : Nat) : Int) == 3) = false)) : Calls Tryz.prog 156 #[.int .i64 ((q : Nat) : Int)] w (Ret w (IsV (.bool false))) := by
 obtain ⟨W, hW, S⟩ : ∃ W, W = w ∧ Sto w W [] := ⟨_, rfl, (Sto.start w)⟩
 go_enter Tryz.func156, Tryz.ntmps156
 go_upto_region 1 with (fail)
 rw [← hW]
 clear hW
 refine rgs 13 [some 3, some 4, some 5, some 6, some 7, some 8, some 9, some 10, some 11, some 12, some 13, some 14, some 2] [IsV (.int .i64 ((q : Nat) : Int)), IsV (.bool true), IsV (.bool true), IsV (.int .i64 ((q : Nat) : Int)), IsV (.int .i64 ((g4 : Nat) : Int)), IsV (.bool false), IsV (.bool false), IsV (.int .i64 ((q : Nat) : Int)), IsV (.int .i64 ((g4 : Nat) : Int)), IsV (.bool false), IsV (.bool false), IsV (.bool false), IsV (.bool false)] [] ?_ ?_
 ·refine Rc (mv (Od.lit 0)) ?_
  refine Rc (bn (r := .bool true) (Od.loc 0 3) Od.con (hr := fun w => by have hx9 := HP.out.1; have hx8 := HP.out.2; go_simp)) ?_
  refine Rc (mv (Od.lc 1 4)) ?_
  refine RcG 2 5 true (mv (Od.lit 0)) ?_
  refine RcG 2 5 true (bn (r := .int .i64 ((g4 : Nat) : Int)) (Od.loc 3 6) Od.con (hr := fun w => by have hx9 := HG.out.1; have hx8 := HG.out.2; go_simp)) ?_
  refine RcG 2 5 true (bn (r := .bool false) (Od.loc 4 7) Od.con (hr := fun w => by have hx9 := HG0.out; go_simp)) ?_
  refine RcG 2 5 true (mv (Od.lc 5 8)) ?_
  refine RcG 6 9 false (mv (Od.lit 0)) ?_
  refine RcG 6 9 false (bn (r := .int .i64 ((g4 : Nat) : Int)) (Od.loc 7 10) Od.con (hr := fun w => by have hx9 := HG.out.1; have hx8 := HG.out.2; go_simp)) ?_
  refine RcG 6 9 false (bn (r := .bool false) (Od.loc 8 11) Od.con (hr := fun w => by have hx9 := HG3.out; go_simp)) ?_
  refine RcG 2 5 true (pk (Od.loc 6 9) (Od.lc 9 12)) ?_
  refine Rc (pk (Od.loc 2 5) (Od.lc 10 13)) ?_
  refine Rc (mv (Od.lc 11 14)) ?_
  exact RgAll.nil
 intro v W1 e1 hΦ _
 replace S := S.mono e1
 have v12 : v 12 = .bool false := hΦ 12 (by decide)
 simp only [layL, Act.put, uAx, u0x, u1x, Nat.reduceAdd]
 rw [v12]
 clear v12 hΦ e1
 refine wpList_nil ?_
 go_wp2_with fail
 exact bodyPost_ret (v := .bool false) (by simp [results, Tryz.results156, go_sem]) rfl (⟨_, rfl, S.ext, rfl⟩)

theorem Is_f (w : World) (q : Nat) (hq : 0 < q) : Calls Tryz.prog 156 #[.int .i64 ((q : Nat) : Int)] w (Ret w (IsV (.bool (isD q)))) := by
 obtain ⟨g4, hg⟩ : ∃ g, q % 4 = g := ⟨_, rfl⟩
 have HG := hid (show ((q : Nat) : Int) % 4 = ((g4 : Nat) : Int) ∧ (((q : Nat) : Int)).tmod 4 = ((g4 : Nat) : Int) by rw [Int.tmod_eq_emod_of_nonneg (by omega)]; omega)
 have HP := hid (show (0 : Int) < ((q : Nat) : Int) ∧ 0 < q by omega)
 have hi : isD q = (g4 == 0 || g4 == 3) := by unfold isD; rw [hg]
 rw [hi]
 by_cases h0 : g4 = 0
 ·subst h0
  exact Is_0 w q 0 HP HG (hid (by decide))
 ·have b0 : (((g4 : Nat) : Int) == 0) = false := by rw [beq_eq_false_iff_ne]; omega
  have b1 : (g4 == 0) = false := by rw [beq_eq_false_iff_ne]; exact h0
  rw [b1, Bool.false_or]
  by_cases h3 : g4 = 3
  ·subst h3
   exact Is_3 w q 3 HP HG (hid b0) (hid (by decide))
  ·rw [show (g4 == 3) = false from by rw [beq_eq_false_iff_ne]; exact h3]
   exact Is_x w q g4 HP HG (hid b0) (hid (by rw [beq_eq_false_iff_ne]; omega))
end Go.Proofs.YtknffgdbdadpcaaGreatDoor
namespace Go.Proofs.YtknffgdbdadpcaaGreatDoor
open Go Go.RowKit

set_option maxRecDepth 100000 in
set_option maxHeartbeats 4000000 in
theorem Split_f (w : World) (n L : Nat) (hn : 1 ≤ n ∧ n ≤ 4194304) (hL : L * L ≤ n ∧ n < (L + 1) * (L + 1)) : Calls Tryz.prog 119 #[.int .i64 ((n : Nat) : Int)] w (Ret w (IsT2 (IsV (.int .i64 ((n / (cdB n L * cdB n L) : Nat) : Int))) (IsV (.int .i64 ((cdB n L : Nat) : Int))))) := by
 have HNN := hid hn
 have HL := hid hL
 clear hn hL
 obtain ⟨W, hW, S⟩ : ∃ W, W = w ∧ Sto w W [] := ⟨_, rfl, (Sto.start w)⟩
 go_enter Tryz.func119, Tryz.ntmps119
 go_upto_region 1 with (fail)
 rw [← hW]
 clear hW
 refine rgs 1 [some 4] [IsV (.int .i64 1)] [] ?_ ?_
 ·refine Rc (mv Od.con) ?_
  exact RgAll.nil
 intro v W1 e1 hΦ _
 replace S := S.mono e1
 have v0 : v 0 = .int .i64 1 := hΦ 0 (by decide)
 simp only [layL, Act.put, uAx, u0x, u1x]
 rw [v0]
 clear v0 hΦ e1
 refine wpList_nil ?_
 go_upto_region 2 with (fail)
 refine rgs 1 [some 5] [IsV (.int .i64 1)] [] ?_ ?_
 ·refine Rc (mv Od.con) ?_
  exact RgAll.nil
 intro v W2 e1 hΦ _
 replace S := S.mono e1
 have v0 : v 0 = .int .i64 1 := hΦ 0 (by decide)
 simp only [layL, Act.put, uAx, u0x, u1x]
 rw [v0]
 clear v0 hΦ e1
 refine wpList_nil ?_
 go_wp2_with fail
 have S0 := hid S; clear S
 have HNI := HNN.out
 go_loopg [4, 5] 2050 (fun gk v4 v5 wr => ∃ K f : Nat, v5 = .int .i64 (((K + 1 : Nat) : Nat) : Int) ∧ v4 = .int .i64 ((f : Nat) : Int) ∧ f = cdB n K ∧ K * K ≤ n ∧ K + gk = 2050 ∧ Hid (Sto w wr []))
 case atStart => exact ⟨0, 1, rfl, rfl, rfl, by omega, rfl, S0⟩
 case round =>
  clear S0
  obtain ⟨K, f, rfl, rfl, hf, hKn, hg, S⟩ := hrel
  have S := S.out
  obtain ⟨k, hk⟩ : ∃ k, K + 1 = k := ⟨_, rfl⟩
  rw [hk]
  have hK48 : K ≤ 2048 := by refine Nat.not_lt.1 fun h => ?_; have := Nat.mul_le_mul (show 2049 ≤ K from h) (show 2049 ≤ K from h); omega
  obtain ⟨sq, hsq⟩ : ∃ s, k * k = s := ⟨_, rfl⟩
  have hsqI : ((k : Nat) : Int) * ((k : Nat) : Int) = ((sq : Nat) : Int) := by rw [← hsq, Int.natCast_mul]
  have hsqb : sq ≤ 4200000 := by have := Nat.mul_le_mul (show k ≤ 2049 by omega) (show k ≤ 2049 by omega); omega
  have hsqp : 1 ≤ sq := by have := Nat.mul_le_mul (show 1 ≤ k by omega) (show 1 ≤ k by omega); omega
  have HSQ := hid (show IntKind.i64.wrap (((k : Nat) : Int) * ((k : Nat) : Int)) = ((sq : Nat) : Int) by rw [hsqI]; simp only [IntKind.wrap_i64]; omega)
  by_cases hle : sq ≤ n
  ·obtain ⟨qq, hqq⟩ : ∃ q, n / sq = q := ⟨_, rfl⟩
   obtain ⟨rr, hrr⟩ : ∃ q, n % sq = q := ⟨_, rfl⟩
   have hqn : qq ≤ n := by rw [← hqq]; exact Nat.div_le_self _ _
   have hqp : 0 < qq := by rw [← hqq]; exact Nat.div_pos hle hsqp
   have hrn : rr < sq := by rw [← hrr]; exact Nat.mod_lt _ hsqp
   have HLE := hid (show ((sq : Nat) : Int) ≤ ((n : Nat) : Int) by omega)
   have HQP := hid hqp
   have htd : (((n : Nat) : Int)).tdiv ((sq : Nat) : Int) = ((qq : Nat) : Int) := by rw [Int.tdiv_eq_ediv_of_nonneg (by omega), ← hqq]; rfl
   have htm : (((n : Nat) : Int)).tmod ((sq : Nat) : Int) = ((rr : Nat) : Int) := by rw [Int.tmod_eq_emod_of_nonneg (by omega), ← hrr]; rfl
   have HQ := hid (show (((n : Nat) : Int)).tdiv ((sq : Nat) : Int) = ((qq : Nat) : Int) ∧ IntKind.i64.wrap ((qq : Nat) : Int) = ((qq : Nat) : Int) ∧ ¬ sq = 0 from ⟨htd, by simp only [IntKind.wrap_i64]; omega, by omega⟩)
   have HR := hid (show (((n : Nat) : Int)).tmod ((sq : Nat) : Int) = ((rr : Nat) : Int) ∧ IntKind.i64.wrap ((rr : Nat) : Int) = ((rr : Nat) : Int) ∧ ¬ sq = 0 from ⟨htm, by simp only [IntKind.wrap_i64]; omega, by omega⟩)
   have HADD := hid (show IntKind.i64.wrap (((k : Nat) : Int) + 1) = ((k : Nat) : Int) + 1 by simp only [IntKind.wrap_i64]; omega)
   have HHN := hid (show K + 1 = k ∧ K + gk = 2050 ∧ K ≤ 2048 from ⟨hk, hg, hK48⟩)
   have HKK2 := hid (show k * k ≤ n by rw [hsq]; exact hle)
   have hcd : cdB n k = if 1 ≤ K ∧ rr = 0 ∧ isD qq = true then k else f := by
    rw [← hk]; unfold cdB; rw [hk, hsq, hrr, hqq, ← hf]
   have hf1 : K = 0 → f = 1 ∧ k = 1 := fun h => by subst h; exact ⟨hf, hk.symm⟩
   by_cases hr0 : rr = 0
   ·cases hi : isD qq
    ·skip
     have HR0 := hid (show (((rr : Nat) : Int) == 0) = true by rw [beq_iff_eq]; omega)
     have HIS := hid (show isD qq = false from hi)
     have HCD := hid (show f = cdB n k by rw [hcd, if_neg (by rintro ⟨_, h1, h2⟩; rw [hi] at h2; exact absurd h2 (by decide))])
     clear hf hKn hg hk hK48 hsq hsqI hsqb hsqp hle hqq hrr hqn hqp hrn htd htm hcd hf1 HNI hr0 hi
     go_upto_region 3 with (fail)
     refine rgs 5 [some 6, some 7, some 8, some 9, some 10] [IsV (.int .i64 ((k : Nat) : Int)), IsV (.int .i64 ((k : Nat) : Int)), IsV (.int .i64 ((sq : Nat) : Int)), IsV (.int .i64 ((n : Nat) : Int)), IsV (.bool true)] [] ?_ ?_
     ·refine Rc (mv (Od.lit 5)) ?_
      refine Rc (mv (Od.lit 5)) ?_
      refine Rc (bn (r := .int .i64 ((sq : Nat) : Int)) (Od.loc 0 6) (Od.loc 1 7) (hr := fun w => by have hx9 := HSQ.out; go_simp)) ?_
      refine Rc (mv (Od.lit 0)) ?_
      refine Rc (bn (r := .bool true) (Od.loc 2 8) (Od.loc 3 9) (hr := fun w => by have hx9 := HLE.out; go_simp)) ?_
      exact RgAll.nil
     intro v W3 e1 hΦ _
     replace S := S.mono e1
     have v4 : v 4 = .bool true := hΦ 4 (by decide)
     simp only [layL, Act.put, uAx, u0x, u1x, Nat.reduceAdd]
     rw [v4]
     clear v4 hΦ e1
     refine wpList_nil ?_
     go_upto_region 5 with (fail)
     refine rgs 14 [some 13, some 14, some 15, some 16, some 17, some 18, some 19, some 20, some 21, some 22, some 23, some 24, some 25, some 26] [IsV (.int .i64 ((n : Nat) : Int)), IsV (.int .i64 ((k : Nat) : Int)), IsV (.int .i64 ((k : Nat) : Int)), IsV (.int .i64 ((sq : Nat) : Int)), IsV (.int .i64 ((rr : Nat) : Int)), IsV (.bool true), IsV (.bool true), IsV (.int .i64 ((n : Nat) : Int)), IsV (.int .i64 ((k : Nat) : Int)), IsV (.int .i64 ((k : Nat) : Int)), IsV (.int .i64 ((sq : Nat) : Int)), IsV (.int .i64 ((qq : Nat) : Int)), IsV (.bool false), IsV (.bool false)] [] ?_ ?_
     ·refine Rc (mv (Od.lit 0)) ?_
      refine Rc (mv (Od.lit 5)) ?_
      refine Rc (mv (Od.lit 5)) ?_
      refine Rc (bn (r := .int .i64 ((sq : Nat) : Int)) (Od.loc 1 14) (Od.loc 2 15) (hr := fun w => by have hx9 := HSQ.out; go_simp)) ?_
      refine Rc (bn (r := .int .i64 ((rr : Nat) : Int)) (Od.loc 0 13) (Od.loc 3 16) (hr := fun w => by have hx9 := HR.out.1; have hx8 := HR.out.2.1; have hx7 := HR.out.2.2; go_simp)) ?_
      refine Rc (bn (r := .bool true) (Od.loc 4 17) Od.con (hr := fun w => by have hx9 := HR0.out; go_simp)) ?_
      refine Rc (mv (Od.lc 5 18)) ?_
      refine RcG 6 19 true (mv (Od.lit 0)) ?_
      refine RcG 6 19 true (mv (Od.lit 5)) ?_
      refine RcG 6 19 true (mv (Od.lit 5)) ?_
      refine RcG 6 19 true (bn (r := .int .i64 ((sq : Nat) : Int)) (Od.loc 8 21) (Od.loc 9 22) (hr := fun w => by have hx9 := HSQ.out; go_simp)) ?_
      refine RcG 6 19 true (bn (r := .int .i64 ((qq : Nat) : Int)) (Od.loc 7 20) (Od.loc 10 23) (hr := fun w => by have hx9 := HQ.out.1; have hx8 := HQ.out.2.1; have hx7 := HQ.out.2.2; go_simp)) ?_
      refine RcG 6 19 true (cl1 (en Tryz.func156) (Od.lc (Φ := IsV (.int .i64 ((qq : Nat) : Int))) 11 24) (fun x0 w' hE d0 => by { obtain rfl : x0 = .int .i64 ((qq : Nat) : Int) := d0; exact Calls.mono (Is_f w' qq HQP.out) fun _ _ h => RetB h HIS.out })) ?_
      refine Rc (pk (Od.loc 6 19) (Od.lc 12 25)) ?_
      exact RgAll.nil
     intro v W4 e1 hΦ _
     replace S := S.mono e1
     have v13 : v 13 = .bool false := hΦ 13 (by decide)
     simp only [layL, Act.put, uAx, u0x, u1x, Nat.reduceAdd]
     rw [v13]
     clear v13 hΦ e1
     refine wpList_nil ?_
     have hx9 := HADD.out
     have S' := hid S; clear S
     go_wp2_with fail
     go_roundg (gk - 1)
     case measure => have := HHN.out; omega
     case rel => exact ⟨k, f, by rw [Int.natCast_add]; rfl, rfl, HCD.out, HKK2.out, by have := HHN.out; omega, S'⟩
    ·skip
     have HR0 := hid (show (((rr : Nat) : Int) == 0) = true by rw [beq_iff_eq]; omega)
     have HIS := hid (show isD qq = true from hi)
     have HCD := hid (show k = cdB n k by
      rw [hcd]
      by_cases h1 : 1 ≤ K
      ·rw [if_pos ⟨h1, hr0, hi⟩]
      ·rw [if_neg (fun h => h1 h.1)]; have := hf1 (by omega); omega)
     clear hf hKn hg hk hK48 hsq hsqI hsqb hsqp hle hqq hrr hqn hqp hrn htd htm hcd hf1 HNI hr0 hi
     go_upto_region 3 with (fail)
     refine rgs 5 [some 6, some 7, some 8, some 9, some 10] [IsV (.int .i64 ((k : Nat) : Int)), IsV (.int .i64 ((k : Nat) : Int)), IsV (.int .i64 ((sq : Nat) : Int)), IsV (.int .i64 ((n : Nat) : Int)), IsV (.bool true)] [] ?_ ?_
     ·refine Rc (mv (Od.lit 5)) ?_
      refine Rc (mv (Od.lit 5)) ?_
      refine Rc (bn (r := .int .i64 ((sq : Nat) : Int)) (Od.loc 0 6) (Od.loc 1 7) (hr := fun w => by have hx9 := HSQ.out; go_simp)) ?_
      refine Rc (mv (Od.lit 0)) ?_
      refine Rc (bn (r := .bool true) (Od.loc 2 8) (Od.loc 3 9) (hr := fun w => by have hx9 := HLE.out; go_simp)) ?_
      exact RgAll.nil
     intro v W5 e1 hΦ _
     replace S := S.mono e1
     have v4 : v 4 = .bool true := hΦ 4 (by decide)
     simp only [layL, Act.put, uAx, u0x, u1x, Nat.reduceAdd]
     rw [v4]
     clear v4 hΦ e1
     refine wpList_nil ?_
     go_upto_region 5 with (fail)
     refine rgs 14 [some 13, some 14, some 15, some 16, some 17, some 18, some 19, some 20, some 21, some 22, some 23, some 24, some 25, some 26] [IsV (.int .i64 ((n : Nat) : Int)), IsV (.int .i64 ((k : Nat) : Int)), IsV (.int .i64 ((k : Nat) : Int)), IsV (.int .i64 ((sq : Nat) : Int)), IsV (.int .i64 ((rr : Nat) : Int)), IsV (.bool true), IsV (.bool true), IsV (.int .i64 ((n : Nat) : Int)), IsV (.int .i64 ((k : Nat) : Int)), IsV (.int .i64 ((k : Nat) : Int)), IsV (.int .i64 ((sq : Nat) : Int)), IsV (.int .i64 ((qq : Nat) : Int)), IsV (.bool true), IsV (.bool true)] [] ?_ ?_
     ·refine Rc (mv (Od.lit 0)) ?_
      refine Rc (mv (Od.lit 5)) ?_
      refine Rc (mv (Od.lit 5)) ?_
      refine Rc (bn (r := .int .i64 ((sq : Nat) : Int)) (Od.loc 1 14) (Od.loc 2 15) (hr := fun w => by have hx9 := HSQ.out; go_simp)) ?_
      refine Rc (bn (r := .int .i64 ((rr : Nat) : Int)) (Od.loc 0 13) (Od.loc 3 16) (hr := fun w => by have hx9 := HR.out.1; have hx8 := HR.out.2.1; have hx7 := HR.out.2.2; go_simp)) ?_
      refine Rc (bn (r := .bool true) (Od.loc 4 17) Od.con (hr := fun w => by have hx9 := HR0.out; go_simp)) ?_
      refine Rc (mv (Od.lc 5 18)) ?_
      refine RcG 6 19 true (mv (Od.lit 0)) ?_
      refine RcG 6 19 true (mv (Od.lit 5)) ?_
      refine RcG 6 19 true (mv (Od.lit 5)) ?_
      refine RcG 6 19 true (bn (r := .int .i64 ((sq : Nat) : Int)) (Od.loc 8 21) (Od.loc 9 22) (hr := fun w => by have hx9 := HSQ.out; go_simp)) ?_
      refine RcG 6 19 true (bn (r := .int .i64 ((qq : Nat) : Int)) (Od.loc 7 20) (Od.loc 10 23) (hr := fun w => by have hx9 := HQ.out.1; have hx8 := HQ.out.2.1; have hx7 := HQ.out.2.2; go_simp)) ?_
      refine RcG 6 19 true (cl1 (en Tryz.func156) (Od.lc (Φ := IsV (.int .i64 ((qq : Nat) : Int))) 11 24) (fun x0 w' hE d0 => by { obtain rfl : x0 = .int .i64 ((qq : Nat) : Int) := d0; exact Calls.mono (Is_f w' qq HQP.out) fun _ _ h => RetB h HIS.out })) ?_
      refine Rc (pk (Od.loc 6 19) (Od.lc 12 25)) ?_
      exact RgAll.nil
     intro v W6 e1 hΦ _
     replace S := S.mono e1
     have v13 : v 13 = .bool true := hΦ 13 (by decide)
     simp only [layL, Act.put, uAx, u0x, u1x, Nat.reduceAdd]
     rw [v13]
     clear v13 hΦ e1
     refine wpList_nil ?_
     go_upto_region 6 with (fail)
     refine rgs 2 [some 27, some 4] [IsV (.int .i64 ((k : Nat) : Int)), IsV (.int .i64 ((k : Nat) : Int))] [] ?_ ?_
     ·refine Rc (mv (Od.lit 5)) ?_
      refine Rc (mv (Od.lc 0 27)) ?_
      exact RgAll.nil
     intro v W7 e1 hΦ _
     replace S := S.mono e1
     have v1 : v 1 = .int .i64 ((k : Nat) : Int) := hΦ 1 (by decide)
     simp only [layL, Act.put, uAx, u0x, u1x, Nat.reduceAdd]
     rw [v1]
     clear v1 hΦ e1
     refine wpList_nil ?_
     have hx9 := HADD.out
     have S' := hid S; clear S
     go_wp2_with fail
     go_roundg (gk - 1)
     case measure => have := HHN.out; omega
     case rel => exact ⟨k, k, by rw [Int.natCast_add]; rfl, rfl, HCD.out, HKK2.out, by have := HHN.out; omega, S'⟩
   ·skip
    have HR0 := hid (show (((rr : Nat) : Int) == 0) = false by rw [beq_eq_false_iff_ne]; omega)
    have HCD := hid (show f = cdB n k by rw [hcd, if_neg (by rintro ⟨_, h1, h2⟩; exact hr0 h1)])
    clear hf hKn hg hk hK48 hsq hsqI hsqb hsqp hle hqq hrr hqn hqp hrn htd htm hcd hf1 HNI hr0
    go_upto_region 3 with (fail)
    refine rgs 5 [some 6, some 7, some 8, some 9, some 10] [IsV (.int .i64 ((k : Nat) : Int)), IsV (.int .i64 ((k : Nat) : Int)), IsV (.int .i64 ((sq : Nat) : Int)), IsV (.int .i64 ((n : Nat) : Int)), IsV (.bool true)] [] ?_ ?_
    ·refine Rc (mv (Od.lit 5)) ?_
     refine Rc (mv (Od.lit 5)) ?_
     refine Rc (bn (r := .int .i64 ((sq : Nat) : Int)) (Od.loc 0 6) (Od.loc 1 7) (hr := fun w => by have hx9 := HSQ.out; go_simp)) ?_
     refine Rc (mv (Od.lit 0)) ?_
     refine Rc (bn (r := .bool true) (Od.loc 2 8) (Od.loc 3 9) (hr := fun w => by have hx9 := HLE.out; go_simp)) ?_
     exact RgAll.nil
    intro v W8 e1 hΦ _
    replace S := S.mono e1
    have v4 : v 4 = .bool true := hΦ 4 (by decide)
    simp only [layL, Act.put, uAx, u0x, u1x, Nat.reduceAdd]
    rw [v4]
    clear v4 hΦ e1
    refine wpList_nil ?_
    go_upto_region 5 with (fail)
    refine rgs 14 [some 13, some 14, some 15, some 16, some 17, some 18, some 19, some 20, some 21, some 22, some 23, some 24, some 25, some 26] [IsV (.int .i64 ((n : Nat) : Int)), IsV (.int .i64 ((k : Nat) : Int)), IsV (.int .i64 ((k : Nat) : Int)), IsV (.int .i64 ((sq : Nat) : Int)), IsV (.int .i64 ((rr : Nat) : Int)), IsV (.bool false), IsV (.bool false), IsV (undef), IsV (undef), IsV (undef), IsV (undef), IsV (undef), IsV (undef), IsV (.bool false)] [] ?_ ?_
    ·refine Rc (mv (Od.lit 0)) ?_
     refine Rc (mv (Od.lit 5)) ?_
     refine Rc (mv (Od.lit 5)) ?_
     refine Rc (bn (r := .int .i64 ((sq : Nat) : Int)) (Od.loc 1 14) (Od.loc 2 15) (hr := fun w => by have hx9 := HSQ.out; go_simp)) ?_
     refine Rc (bn (r := .int .i64 ((rr : Nat) : Int)) (Od.loc 0 13) (Od.loc 3 16) (hr := fun w => by have hx9 := HR.out.1; have hx8 := HR.out.2.1; have hx7 := HR.out.2.2; go_simp)) ?_
     refine Rc (bn (r := .bool false) (Od.loc 4 17) Od.con (hr := fun w => by have hx9 := HR0.out; go_simp)) ?_
     refine Rc (mv (Od.lc 5 18)) ?_
     refine RcN 6 19 false ?_
     refine RcN 6 19 false ?_
     refine RcN 6 19 false ?_
     refine RcN 6 19 false ?_
     refine RcN 6 19 false ?_
     refine RcN 6 19 false ?_
     refine Rc (pk (Od.loc 6 19) Od.con) ?_
     exact RgAll.nil
    intro v W9 e1 hΦ _
    replace S := S.mono e1
    have v13 : v 13 = .bool false := hΦ 13 (by decide)
    simp only [layL, Act.put, uAx, u0x, u1x, Nat.reduceAdd]
    rw [v13]
    clear v13 hΦ e1
    refine wpList_nil ?_
    have hx9 := HADD.out
    have S' := hid S; clear S
    go_wp2_with fail
    go_roundg (gk - 1)
    case measure => have := HHN.out; omega
    case rel => exact ⟨k, f, by rw [Int.natCast_add]; rfl, rfl, HCD.out, HKK2.out, by have := HHN.out; omega, S'⟩
  ·skip
   obtain rfl : K = L := sqrt_uniq hKn (by rw [hk, hsq]; omega) HL.out.1 HL.out.2
   have HGT := hid (show ((n : Nat) : Int) < ((sq : Nat) : Int) ∧ n < sq by omega)
   have hfb := cdB_pos n K; rw [← hf] at hfb
   obtain ⟨ff, hff⟩ : ∃ s, f * f = s := ⟨_, rfl⟩
   have hffb : ff ≤ 4300000 ∧ 1 ≤ ff := by have h1 := Nat.mul_le_mul (show f ≤ 2049 by omega) (show f ≤ 2049 by omega); have h2 := Nat.mul_le_mul hfb.1 hfb.1; omega
   have HFF := hid (show IntKind.i64.wrap (((f : Nat) : Int) * ((f : Nat) : Int)) = ((ff : Nat) : Int) by rw [← Int.natCast_mul, hff]; simp only [IntKind.wrap_i64]; omega)
   obtain ⟨dq, hdq⟩ : ∃ q, n / ff = q := ⟨_, rfl⟩
   have hdqb : dq ≤ n := by rw [← hdq]; exact Nat.div_le_self _ _
   have HDQ := hid (show (((n : Nat) : Int)).tdiv ((ff : Nat) : Int) = ((dq : Nat) : Int) ∧ IntKind.i64.wrap ((dq : Nat) : Int) = ((dq : Nat) : Int) ∧ ¬ ff = 0 from ⟨by rw [Int.tdiv_eq_ediv_of_nonneg (by omega), ← hdq]; rfl, by simp only [IntKind.wrap_i64]; omega, by omega⟩)
   have HE := hid (show f = cdB n K ∧ dq = n / (cdB n K * cdB n K) from ⟨hf, by rw [← hf, hff, hdq]⟩)
   clear hf hKn hg hk hK48 hsq hsqI hsqb hsqp hle hfb hff hffb hdq hdqb HNI
   go_upto_region 3 with (fail)
   refine rgs 5 [some 6, some 7, some 8, some 9, some 10] [IsV (.int .i64 ((k : Nat) : Int)), IsV (.int .i64 ((k : Nat) : Int)), IsV (.int .i64 ((sq : Nat) : Int)), IsV (.int .i64 ((n : Nat) : Int)), IsV (.bool false)] [] ?_ ?_
   ·refine Rc (mv (Od.lit 5)) ?_
    refine Rc (mv (Od.lit 5)) ?_
    refine Rc (bn (r := .int .i64 ((sq : Nat) : Int)) (Od.loc 0 6) (Od.loc 1 7) (hr := fun w => by have hx9 := HSQ.out; go_simp)) ?_
    refine Rc (mv (Od.lit 0)) ?_
    refine Rc (bn (r := .bool false) (Od.loc 2 8) (Od.loc 3 9) (hr := fun w => by have hx9 := HGT.out.1; have hx8 := HGT.out.2; go_simp)) ?_
    exact RgAll.nil
   intro v W10 e1 hΦ _
   replace S := S.mono e1
   have v4 : v 4 = .bool false := hΦ 4 (by decide)
   simp only [layL, Act.put, uAx, u0x, u1x, Nat.reduceAdd]
   rw [v4]
   clear v4 hΦ e1
   refine wpList_nil ?_
   go_upto_region 7 with (fail)
   refine rgs 8 [some 28, some 29, some 30, some 31, some 32, some 33, some 2, some 3] [IsV (.int .i64 ((n : Nat) : Int)), IsV (.int .i64 ((f : Nat) : Int)), IsV (.int .i64 ((f : Nat) : Int)), IsV (.int .i64 ((ff : Nat) : Int)), IsV (.int .i64 ((dq : Nat) : Int)), IsV (.int .i64 ((f : Nat) : Int)), IsV (.int .i64 ((dq : Nat) : Int)), IsV (.int .i64 ((f : Nat) : Int))] [] ?_ ?_
   ·refine Rc (mv (Od.lit 0)) ?_
    refine Rc (mv (Od.lit 4)) ?_
    refine Rc (mv (Od.lit 4)) ?_
    refine Rc (bn (r := .int .i64 ((ff : Nat) : Int)) (Od.loc 1 29) (Od.loc 2 30) (hr := fun w => by have hx9 := HFF.out; go_simp)) ?_
    refine Rc (bn (r := .int .i64 ((dq : Nat) : Int)) (Od.loc 0 28) (Od.loc 3 31) (hr := fun w => by have hx9 := HDQ.out.1; have hx8 := HDQ.out.2.1; have hx7 := HDQ.out.2.2; go_simp)) ?_
    refine Rc (mv (Od.lit 4)) ?_
    refine Rc (mv (Od.lc 4 32)) ?_
    refine Rc (mv (Od.lc 5 33)) ?_
    exact RgAll.nil
   intro v W11 e1 hΦ _
   replace S := S.mono e1
   have v6 : v 6 = .int .i64 ((dq : Nat) : Int) := hΦ 6 (by decide)
   have v7 : v 7 = .int .i64 ((f : Nat) : Int) := hΦ 7 (by decide)
   simp only [layL, Act.put, uAx, u0x, u1x, Nat.reduceAdd]
   rw [v6, v7]
   clear v6 v7 hΦ e1
   refine wpList_nil ?_
   go_wp2_with fail
   exact bodyPost_ret (v := .tuple #[.int .i64 ((dq : Nat) : Int), .int .i64 ((f : Nat) : Int)]) (by simp [results, Tryz.results119, go_sem]) rfl (⟨_, rfl, S.ext, ⟨_, _, rfl, by rw [← HE.out.2]; rfl, by rw [← HE.out.1]; rfl⟩⟩)
end Go.Proofs.YtknffgdbdadpcaaGreatDoor
