/-
  Valid of the reference of package rational at canonical numbers. (Printed by wip/gen/rat6.py with SEL=rq, parted by hand.)
-/
import Derived.Test.YtcgdkfadcglekaaGreatDoorQ6
namespace Go.Proofs.YtcgdkfadcglekaaGreatDoor
open Go Go.RowKit

set_option maxRecDepth 100000 in
set_option maxHeartbeats 4000000 in
theorem rqValid_0 {k : Nat} {n d : Int} {x : Value} {w : World} (hx : IsQ (IsI k n) (IsI k d) x w) (hk : k ≤ 1000) (hd : d ≤ 0) : Calls Tryz.prog 40 #[x] w (Ret w (IsV (.bool false))) := by
  have HK := hid hk
  obtain ⟨sg, hsg⟩ : ∃ s, d.sign = s := ⟨_, rfl⟩
  have HS := hid hsg
  have HS1 := hid (show decide (0 < sg) = false by rw [decide_eq_false_iff_not, ← hsg, Int.sign_pos_iff]; omega)
  clear hk hd hsg
  obtain ⟨s1x, a1x, n1x, c1x, s1y, a1y, n1y, c1y, rfl, h1x, h1y⟩ := hx
  obtain ⟨W, hW, S⟩ : ∃ W, W = w.alloc (.cells #[.bool s1x, .slice a1x n1x c1x, .bool s1y, .slice a1y n1y c1y] 31) ∧ Sto w W [((w.heap.size, 1), IsI k d), ((w.heap.size, 0), IsI k n)] := ⟨_, rfl, ((Sto.start w).new2 (w.heap.size) (by simp) s1x s1y a1x a1y n1x c1x n1y c1y 31 (IsI k n) (IsI k d) (IsI.gstb _ _) (h1x) (IsI.gstb _ _) (h1y))⟩
  clear h1x h1y
  go_enter Tryz.func40, Tryz.ntmps40
  go_upto_region 1 with (fail)
  rw [← hW]
  clear hW
  refine rgs 24 [some 3, some 4, some 5, some 6, some 7, some 8, some 9, some 10, some 11, some 12, some 13, some 14, some 15, some 16, some 17, some 18, some 19, some 20, some 21, some 22, some 23, some 24, some 25, some 2] [IsV (.pointer (some ⟨w.heap.size, 0, none⟩)), IsI k n, IsV (.bool true), IsV (.bool true), IsV (.pointer (some ⟨w.heap.size, 2, none⟩)), IsI k d, IsV (.bool true), IsV (.bool true), IsV (.bool true), IsV (.pointer (some ⟨w.heap.size, 2, none⟩)), IsI k d, IsV (.int .i64 sg), IsV (.bool false), IsV (.bool false), IsV (.bool false), IsV (undef), IsV (undef), IsV (undef), IsV (undef), IsV (undef), IsV (undef), IsV (undef), IsV (.bool false), IsV (.bool false)] [] ?_ ?_
  · refine Rc (fa (fa_Rat0 (w.heap.size) 0) (Od.lit 1)) ?_
    refine Rc (ldI S 1 (w.heap.size) 0 (Od.lc 0 3) ld_Int) ?_
    refine Rc (cl1 (en Tryz.func89) (Od.lc (Φ := IsI k n) 1 4) (fun x0 w' hE d0 => RValid_f d0)) ?_
    refine Rc (mv (Od.lc 2 5)) ?_
    refine RcG 3 6 true (fa (fa_Rat1 (w.heap.size) 0) (Od.lit 1)) ?_
    refine RcG 3 6 true (ldI S 0 (w.heap.size) 1 (Od.lc 4 7) ld_Int) ?_
    refine RcG 3 6 true (cl1 (en Tryz.func89) (Od.lc (Φ := IsI k d) 5 8) (fun x0 w' hE d0 => RValid_f d0)) ?_
    refine Rc (pk (Od.loc 3 6) (Od.lc 6 9)) ?_
    refine Rc (mv (Od.lc 7 10)) ?_
    refine RcG 8 11 true (fa (fa_Rat1 (w.heap.size) 0) (Od.lit 1)) ?_
    refine RcG 8 11 true (ldI S 0 (w.heap.size) 1 (Od.lc 9 12) ld_Int) ?_
    refine RcG 8 11 true (cl1 (en Tryz.func33) (Od.lc (Φ := IsI k d) 10 13) (fun x0 w' hE d0 => Calls.mono (RSign_f d0) fun _ _ h => h.int (HS.out))) ?_
    refine RcG 8 11 true (bn (r := .bool false) (Od.loc 11 14) Od.con (hr := fun w => by have hx9 := HS1.out; go_simp)) ?_
    refine Rc (pk (Od.loc 8 11) (Od.lc 12 15)) ?_
    refine Rc (mv (Od.lc 13 16)) ?_
    refine RcN 14 17 false ?_
    refine RcN 14 17 false ?_
    refine RcN 14 17 false ?_
    refine RcN 14 17 false ?_
    refine RcN 14 17 false ?_
    refine RcN 14 17 false ?_
    refine RcN 14 17 false ?_
    refine Rc (pk (Od.loc 14 17) Od.con) ?_
    refine Rc (mv (Od.lc 22 25)) ?_
    exact RgAll.nil
  intro v W1 e1 hΦ _
  replace S := S.mono e1
  have v23 : v 23 = .bool false := hΦ 23 (by decide)
  simp only [layL, Act.put, List.setIfInBounds_toArray, List.set_cons_zero, List.set_cons_succ, Nat.reduceAdd]
  rw [v23]
  clear v23 hΦ e1
  refine wpList_nil ?_
  go_wp2_with fail
  exact bodyPost_ret (v := .bool false) (by simp [results, Tryz.results40, go_sem]) rfl (⟨_, rfl, S.ext, rfl⟩)

set_option maxRecDepth 100000 in
set_option maxHeartbeats 4000000 in
theorem rqValid_t {k : Nat} {n d : Int} {x : Value} {w : World} (hx : IsQ (IsI k n) (IsI k d) x w) (hk : k ≤ 1000) (hd : 0 < d) (hg : Int.gcd n d = 1) : Calls Tryz.prog 40 #[x] w (Ret w (IsV (.bool true))) := by
  have HK := hid hk
  obtain ⟨sg, hsg⟩ : ∃ s, d.sign = s := ⟨_, rfl⟩
  have HS := hid hsg
  have HS1 := hid (show decide (0 < sg) = true by rw [decide_eq_true_iff, ← hsg, Int.sign_pos_iff]; omega)
  obtain ⟨gg, hgg⟩ : ∃ g, Int.gcd n d = g := ⟨_, rfl⟩
  have HG := hid (show ((Int.gcd n d : Nat) : Int) = ((gg : Nat) : Int) by rw [hgg])
  rw [hgg] at hg
  have HE := hid (show ((gg : Nat) : Int) = 1 by omega)
  clear hk hd hsg hg hgg
  obtain ⟨s1x, a1x, n1x, c1x, s1y, a1y, n1y, c1y, rfl, h1x, h1y⟩ := hx
  obtain ⟨W, hW, S⟩ : ∃ W, W = w.alloc (.cells #[.bool s1x, .slice a1x n1x c1x, .bool s1y, .slice a1y n1y c1y] 31) ∧ Sto w W [((w.heap.size, 1), IsI k d), ((w.heap.size, 0), IsI k n)] := ⟨_, rfl, ((Sto.start w).new2 (w.heap.size) (by simp) s1x s1y a1x a1y n1x c1x n1y c1y 31 (IsI k n) (IsI k d) (IsI.gstb _ _) (h1x) (IsI.gstb _ _) (h1y))⟩
  clear h1x h1y
  go_enter Tryz.func40, Tryz.ntmps40
  go_upto_region 1 with (fail)
  rw [← hW]
  clear hW
  refine rgs 24 [some 3, some 4, some 5, some 6, some 7, some 8, some 9, some 10, some 11, some 12, some 13, some 14, some 15, some 16, some 17, some 18, some 19, some 20, some 21, some 22, some 23, some 24, some 25, some 2] [IsV (.pointer (some ⟨w.heap.size, 0, none⟩)), IsI k n, IsV (.bool true), IsV (.bool true), IsV (.pointer (some ⟨w.heap.size, 2, none⟩)), IsI k d, IsV (.bool true), IsV (.bool true), IsV (.bool true), IsV (.pointer (some ⟨w.heap.size, 2, none⟩)), IsI k d, IsV (.int .i64 sg), IsV (.bool true), IsV (.bool true), IsV (.bool true), IsV (.pointer (some ⟨w.heap.size, 0, none⟩)), IsI k n, IsV (.pointer (some ⟨w.heap.size, 2, none⟩)), IsI k d, IsI (max k k) (((gg : Nat) : Int)), IsI 2 1, IsV (.bool true), IsV (.bool true), IsV (.bool true)] [] ?_ ?_
  · refine Rc (fa (fa_Rat0 (w.heap.size) 0) (Od.lit 1)) ?_
    refine Rc (ldI S 1 (w.heap.size) 0 (Od.lc 0 3) ld_Int) ?_
    refine Rc (cl1 (en Tryz.func89) (Od.lc (Φ := IsI k n) 1 4) (fun x0 w' hE d0 => RValid_f d0)) ?_
    refine Rc (mv (Od.lc 2 5)) ?_
    refine RcG 3 6 true (fa (fa_Rat1 (w.heap.size) 0) (Od.lit 1)) ?_
    refine RcG 3 6 true (ldI S 0 (w.heap.size) 1 (Od.lc 4 7) ld_Int) ?_
    refine RcG 3 6 true (cl1 (en Tryz.func89) (Od.lc (Φ := IsI k d) 5 8) (fun x0 w' hE d0 => RValid_f d0)) ?_
    refine Rc (pk (Od.loc 3 6) (Od.lc 6 9)) ?_
    refine Rc (mv (Od.lc 7 10)) ?_
    refine RcG 8 11 true (fa (fa_Rat1 (w.heap.size) 0) (Od.lit 1)) ?_
    refine RcG 8 11 true (ldI S 0 (w.heap.size) 1 (Od.lc 9 12) ld_Int) ?_
    refine RcG 8 11 true (cl1 (en Tryz.func33) (Od.lc (Φ := IsI k d) 10 13) (fun x0 w' hE d0 => Calls.mono (RSign_f d0) fun _ _ h => h.int (HS.out))) ?_
    refine RcG 8 11 true (bn (r := .bool true) (Od.loc 11 14) Od.con (hr := fun w => by have hx9 := HS1.out; go_simp)) ?_
    refine Rc (pk (Od.loc 8 11) (Od.lc 12 15)) ?_
    refine Rc (mv (Od.lc 13 16)) ?_
    refine RcG 14 17 true (fa (fa_Rat0 (w.heap.size) 0) (Od.lit 1)) ?_
    refine RcG 14 17 true (ldI S 1 (w.heap.size) 0 (Od.lc 15 18) ld_Int) ?_
    refine RcG 14 17 true (fa (fa_Rat1 (w.heap.size) 0) (Od.lit 1)) ?_
    refine RcG 14 17 true (ldI S 0 (w.heap.size) 1 (Od.lc 17 20) ld_Int) ?_
    refine RcG 14 17 true (cl2 (en Tryz.func90) (Od.lc (Φ := IsI k n) 16 19) (Od.lc (Φ := IsI k d) 18 21) (fun x0 x1 w' hE d0 d1 => Calls.mono (RGcd_f d0 d1 (by have := HK.out; omega) (by have := HK.out; omega)) fun _ _ h => h.eqz HG.out)) ?_
    refine RcG 14 17 true (cl1 (en Tryz.func24) Od.con (fun x0 w' hE d0 => by { obtain rfl : x0 = .int .i64 1 := d0; exact ROf_f _ 1 (by decide) (by decide) })) ?_
    refine RcG 14 17 true (cl2 (en Tryz.func47) (Od.lc (Φ := IsI (max k k) (((gg : Nat) : Int))) 19 22) (Od.lc (Φ := IsI 2 1) 20 23) (fun x0 x1 w' hE d0 d1 => Same_t d0 d1 HE.out (by have := HK.out; omega))) ?_
    refine Rc (pk (Od.loc 14 17) (Od.lc 21 24)) ?_
    refine Rc (mv (Od.lc 22 25)) ?_
    exact RgAll.nil
  intro v W1 e1 hΦ _
  replace S := S.mono e1
  have v23 : v 23 = .bool true := hΦ 23 (by decide)
  simp only [layL, Act.put, List.setIfInBounds_toArray, List.set_cons_zero, List.set_cons_succ, Nat.reduceAdd]
  rw [v23]
  clear v23 hΦ e1
  refine wpList_nil ?_
  go_wp2_with fail
  exact bodyPost_ret (v := .bool true) (by simp [results, Tryz.results40, go_sem]) rfl (⟨_, rfl, S.ext, rfl⟩)

set_option maxRecDepth 100000 in
set_option maxHeartbeats 4000000 in
theorem rqValid_ff {k : Nat} {n d : Int} {x : Value} {w : World} (hx : IsQ (IsI k n) (IsI k d) x w) (hk : k ≤ 1000) (hd : 0 < d) (hg : Int.gcd n d ≠ 1) : Calls Tryz.prog 40 #[x] w (Ret w (IsV (.bool false))) := by
  have HK := hid hk
  obtain ⟨sg, hsg⟩ : ∃ s, d.sign = s := ⟨_, rfl⟩
  have HS := hid hsg
  have HS1 := hid (show decide (0 < sg) = true by rw [decide_eq_true_iff, ← hsg, Int.sign_pos_iff]; omega)
  obtain ⟨gg, hgg⟩ : ∃ g, Int.gcd n d = g := ⟨_, rfl⟩
  have HG := hid (show ((Int.gcd n d : Nat) : Int) = ((gg : Nat) : Int) by rw [hgg])
  rw [hgg] at hg
  have HE := hid (show ((gg : Nat) : Int) ≠ 1 by omega)
  clear hk hd hsg hg hgg
  obtain ⟨s1x, a1x, n1x, c1x, s1y, a1y, n1y, c1y, rfl, h1x, h1y⟩ := hx
  obtain ⟨W, hW, S⟩ : ∃ W, W = w.alloc (.cells #[.bool s1x, .slice a1x n1x c1x, .bool s1y, .slice a1y n1y c1y] 31) ∧ Sto w W [((w.heap.size, 1), IsI k d), ((w.heap.size, 0), IsI k n)] := ⟨_, rfl, ((Sto.start w).new2 (w.heap.size) (by simp) s1x s1y a1x a1y n1x c1x n1y c1y 31 (IsI k n) (IsI k d) (IsI.gstb _ _) (h1x) (IsI.gstb _ _) (h1y))⟩
  clear h1x h1y
  go_enter Tryz.func40, Tryz.ntmps40
  go_upto_region 1 with (fail)
  rw [← hW]
  clear hW
  refine rgs 24 [some 3, some 4, some 5, some 6, some 7, some 8, some 9, some 10, some 11, some 12, some 13, some 14, some 15, some 16, some 17, some 18, some 19, some 20, some 21, some 22, some 23, some 24, some 25, some 2] [IsV (.pointer (some ⟨w.heap.size, 0, none⟩)), IsI k n, IsV (.bool true), IsV (.bool true), IsV (.pointer (some ⟨w.heap.size, 2, none⟩)), IsI k d, IsV (.bool true), IsV (.bool true), IsV (.bool true), IsV (.pointer (some ⟨w.heap.size, 2, none⟩)), IsI k d, IsV (.int .i64 sg), IsV (.bool true), IsV (.bool true), IsV (.bool true), IsV (.pointer (some ⟨w.heap.size, 0, none⟩)), IsI k n, IsV (.pointer (some ⟨w.heap.size, 2, none⟩)), IsI k d, IsI (max k k) (((gg : Nat) : Int)), IsI 2 1, IsV (.bool false), IsV (.bool false), IsV (.bool false)] [] ?_ ?_
  · refine Rc (fa (fa_Rat0 (w.heap.size) 0) (Od.lit 1)) ?_
    refine Rc (ldI S 1 (w.heap.size) 0 (Od.lc 0 3) ld_Int) ?_
    refine Rc (cl1 (en Tryz.func89) (Od.lc (Φ := IsI k n) 1 4) (fun x0 w' hE d0 => RValid_f d0)) ?_
    refine Rc (mv (Od.lc 2 5)) ?_
    refine RcG 3 6 true (fa (fa_Rat1 (w.heap.size) 0) (Od.lit 1)) ?_
    refine RcG 3 6 true (ldI S 0 (w.heap.size) 1 (Od.lc 4 7) ld_Int) ?_
    refine RcG 3 6 true (cl1 (en Tryz.func89) (Od.lc (Φ := IsI k d) 5 8) (fun x0 w' hE d0 => RValid_f d0)) ?_
    refine Rc (pk (Od.loc 3 6) (Od.lc 6 9)) ?_
    refine Rc (mv (Od.lc 7 10)) ?_
    refine RcG 8 11 true (fa (fa_Rat1 (w.heap.size) 0) (Od.lit 1)) ?_
    refine RcG 8 11 true (ldI S 0 (w.heap.size) 1 (Od.lc 9 12) ld_Int) ?_
    refine RcG 8 11 true (cl1 (en Tryz.func33) (Od.lc (Φ := IsI k d) 10 13) (fun x0 w' hE d0 => Calls.mono (RSign_f d0) fun _ _ h => h.int (HS.out))) ?_
    refine RcG 8 11 true (bn (r := .bool true) (Od.loc 11 14) Od.con (hr := fun w => by have hx9 := HS1.out; go_simp)) ?_
    refine Rc (pk (Od.loc 8 11) (Od.lc 12 15)) ?_
    refine Rc (mv (Od.lc 13 16)) ?_
    refine RcG 14 17 true (fa (fa_Rat0 (w.heap.size) 0) (Od.lit 1)) ?_
    refine RcG 14 17 true (ldI S 1 (w.heap.size) 0 (Od.lc 15 18) ld_Int) ?_
    refine RcG 14 17 true (fa (fa_Rat1 (w.heap.size) 0) (Od.lit 1)) ?_
    refine RcG 14 17 true (ldI S 0 (w.heap.size) 1 (Od.lc 17 20) ld_Int) ?_
    refine RcG 14 17 true (cl2 (en Tryz.func90) (Od.lc (Φ := IsI k n) 16 19) (Od.lc (Φ := IsI k d) 18 21) (fun x0 x1 w' hE d0 d1 => Calls.mono (RGcd_f d0 d1 (by have := HK.out; omega) (by have := HK.out; omega)) fun _ _ h => h.eqz HG.out)) ?_
    refine RcG 14 17 true (cl1 (en Tryz.func24) Od.con (fun x0 w' hE d0 => by { obtain rfl : x0 = .int .i64 1 := d0; exact ROf_f _ 1 (by decide) (by decide) })) ?_
    refine RcG 14 17 true (cl2 (en Tryz.func47) (Od.lc (Φ := IsI (max k k) (((gg : Nat) : Int))) 19 22) (Od.lc (Φ := IsI 2 1) 20 23) (fun x0 x1 w' hE d0 d1 => Same_n d0 d1 HE.out (by have := HK.out; omega))) ?_
    refine Rc (pk (Od.loc 14 17) (Od.lc 21 24)) ?_
    refine Rc (mv (Od.lc 22 25)) ?_
    exact RgAll.nil
  intro v W1 e1 hΦ _
  replace S := S.mono e1
  have v23 : v 23 = .bool false := hΦ 23 (by decide)
  simp only [layL, Act.put, List.setIfInBounds_toArray, List.set_cons_zero, List.set_cons_succ, Nat.reduceAdd]
  rw [v23]
  clear v23 hΦ e1
  refine wpList_nil ?_
  go_wp2_with fail
  exact bodyPost_ret (v := .bool false) (by simp [results, Tryz.results40, go_sem]) rfl (⟨_, rfl, S.ext, rfl⟩)

theorem rqValid_f {k : Nat} {n d : Int} {x : Value} {w : World} (hx : IsQ (IsI k n) (IsI k d) x w) (hk : k ≤ 1000) : Calls Tryz.prog 40 #[x] w (Ret w (IsV (.bool (validQ n d)))) := by
  unfold validQ
  by_cases hd : 0 < d
  · by_cases hg : Int.gcd n d = 1
    · rw [show (decide (0 < d) && (Int.gcd n d == 1)) = true by simp [hd, hg]]
      exact rqValid_t hx hk hd hg
    · rw [show (decide (0 < d) && (Int.gcd n d == 1)) = false by simp [hg]]
      exact rqValid_ff hx hk hd hg
  · rw [show (decide (0 < d) && (Int.gcd n d == 1)) = false by simp [hd]]
    exact rqValid_0 hx hk (by omega)

end Go.Proofs.YtcgdkfadcglekaaGreatDoor
