/-
  Valid and Text of package rational. (Printed by wip/gen/rat6.py.)
-/
import Derived.Test.YtcgdkfadcglekaaGreatDoorQ5
import Derived.Test.YtcgdkfadcglekaaGreatDoorValid
namespace Go.Proofs.YtcgdkfadcglekaaGreatDoor
open Go Go.RowKit

/-- What Valid answers of two canonical integers. -/
def validQ (n d : Int) : Bool := decide (0 < d) && (Int.gcd n d == 1)
theorem validQ_rat (q : Rat) : validQ q.num (q.den : Int) = true := by
  unfold validQ
  have h1 := q.den_pos
  have h2 : Int.gcd q.num (q.den : Int) = 1 := by have := q.reduced; unfold Nat.Coprime at this; unfold Int.gcd; rw [Int.natAbs_natCast]; exact this
  rw [h2]; simp; omega
set_option maxRecDepth 100000 in
set_option maxHeartbeats 4000000 in
theorem qValid_0 {k : Nat} {n d : Int} {x : Value} {w : World} (hx : IsQ (IsI k n) (IsI k d) x w) (hk : k ≤ 1000) (hd : d ≤ 0) : Calls Tryz.prog 41 #[x] w (Ret w (IsV (.bool false))) := by
  have HK := hid hk
  obtain ⟨sg, hsg⟩ : ∃ s, d.sign = s := ⟨_, rfl⟩
  have HS := hid hsg
  have HS1 := hid (show decide (0 < sg) = false by rw [decide_eq_false_iff_not, ← hsg, Int.sign_pos_iff]; omega)
  clear hk hd hsg
  obtain ⟨s1x, a1x, n1x, c1x, s1y, a1y, n1y, c1y, rfl, h1x, h1y⟩ := hx
  obtain ⟨W, hW, S⟩ : ∃ W, W = w.alloc (.cells #[.bool s1x, .slice a1x n1x c1x, .bool s1y, .slice a1y n1y c1y] 31) ∧ Sto w W [((w.heap.size, 1), IsI k d), ((w.heap.size, 0), IsI k n)] := ⟨_, rfl, ((Sto.start w).new2 (w.heap.size) (by simp) s1x s1y a1x a1y n1x c1x n1y c1y 31 (IsI k n) (IsI k d) (IsI.gstb _ _) (h1x) (IsI.gstb _ _) (h1y))⟩
  clear h1x h1y
  go_enter Tryz.func41, Tryz.ntmps41
  go_upto_region 1 with (fail)
  rw [← hW]
  clear hW
  refine rgs 25 [some 3, some 4, some 5, some 6, some 7, some 8, some 9, some 10, some 11, some 12, some 13, some 14, some 15, some 16, some 17, some 18, some 19, some 20, some 21, some 22, some 23, some 24, some 25, some 26, some 2] [IsV (.pointer (some ⟨w.heap.size, 0, none⟩)), IsI k n, IsV (.bool true), IsV (.bool true), IsV (.pointer (some ⟨w.heap.size, 2, none⟩)), IsI k d, IsV (.bool true), IsV (.bool true), IsV (.bool true), IsV (.pointer (some ⟨w.heap.size, 2, none⟩)), IsI k d, IsV (.int .i64 sg), IsV (.bool false), IsV (.bool false), IsV (.bool false), IsV (undef), IsV (undef), IsV (undef), IsV (undef), IsV (undef), IsV (undef), IsV (undef), IsV (undef), IsV (.bool false), IsV (.bool false)] [] ?_ ?_
  · refine Rc (fa (fa_Rat0 (w.heap.size) 0) (Od.lit 1)) ?_
    refine Rc (ldI S 1 (w.heap.size) 0 (Od.lc 0 3) ld_Int) ?_
    refine Rc (cl1 (en Tryz.func91) (Od.lc (Φ := IsI k n) 1 4) (fun x0 w' hE d0 => Valid_f d0)) ?_
    refine Rc (mv (Od.lc 2 5)) ?_
    refine RcG 3 6 true (fa (fa_Rat1 (w.heap.size) 0) (Od.lit 1)) ?_
    refine RcG 3 6 true (ldI S 0 (w.heap.size) 1 (Od.lc 4 7) ld_Int) ?_
    refine RcG 3 6 true (cl1 (en Tryz.func91) (Od.lc (Φ := IsI k d) 5 8) (fun x0 w' hE d0 => Valid_f d0)) ?_
    refine Rc (pk (Od.loc 3 6) (Od.lc 6 9)) ?_
    refine Rc (mv (Od.lc 7 10)) ?_
    refine RcG 8 11 true (fa (fa_Rat1 (w.heap.size) 0) (Od.lit 1)) ?_
    refine RcG 8 11 true (ldI S 0 (w.heap.size) 1 (Od.lc 9 12) ld_Int) ?_
    refine RcG 8 11 true (cl1 (en Tryz.func85) (Od.lc (Φ := IsI k d) 10 13) (fun x0 w' hE d0 => Calls.mono (Sign_f d0) fun _ _ h => h.int (HS.out))) ?_
    refine RcG 8 11 true (bn (r := .bool false) (Od.loc 11 14) Od.con (hr := fun w => by have hx9 := HS1.out; go_simp)) ?_
    refine Rc (pk (Od.loc 8 11) (Od.lc 12 15)) ?_
    refine Rc (mv (Od.lc 13 16)) ?_
    refine RcN 14 17 false ?_
    refine RcN 14 17 false ?_
    refine RcN 14 17 false ?_
    refine RcN 14 17 false ?_
    refine RcN 14 17 false ?_
    refine RcN 14 17 false ?_
    refine RcN 14 17 false ?_
    refine RcN 14 17 false ?_
    refine Rc (pk (Od.loc 14 17) Od.con) ?_
    refine Rc (mv (Od.lc 23 26)) ?_
    exact RgAll.nil
  intro v W1 e1 hΦ _
  replace S := S.mono e1
  have v24 : v 24 = .bool false := hΦ 24 (by decide)
  simp only [layL, Act.put, List.setIfInBounds_toArray, List.set_cons_zero, List.set_cons_succ, Nat.reduceAdd]
  rw [v24]
  clear v24 hΦ e1
  refine wpList_nil ?_
  go_wp2_with fail
  exact bodyPost_ret (v := .bool false) (by simp [results, Tryz.results41, go_sem]) rfl (⟨_, rfl, S.ext, rfl⟩)

set_option maxRecDepth 100000 in
set_option maxHeartbeats 4000000 in
theorem qValid_t {k : Nat} {n d : Int} {x : Value} {w : World} (hx : IsQ (IsI k n) (IsI k d) x w) (hk : k ≤ 1000) (hd : 0 < d) (hg : Int.gcd n d = 1) : Calls Tryz.prog 41 #[x] w (Ret w (IsV (.bool true))) := by
  have HK := hid hk
  obtain ⟨sg, hsg⟩ : ∃ s, d.sign = s := ⟨_, rfl⟩
  have HS := hid hsg
  have HS1 := hid (show decide (0 < sg) = true by rw [decide_eq_true_iff, ← hsg, Int.sign_pos_iff]; omega)
  obtain ⟨gg, hgg⟩ : ∃ g, Int.gcd n d = g := ⟨_, rfl⟩
  have HG := hid (show ((Int.gcd n d : Nat) : Int) = ((gg : Nat) : Int) by rw [hgg])
  rw [hgg] at hg
  obtain ⟨c1, hc⟩ : ∃ c, cmpI ((gg : Nat) : Int) 1 = c := ⟨_, rfl⟩
  have HC := hid hc
  have HC1 := hid (show (c1 == 0) = true by rw [← hc]; unfold cmpI; rw [hg]; rfl)
  clear hc
  clear hk hd hsg hg hgg
  obtain ⟨s1x, a1x, n1x, c1x, s1y, a1y, n1y, c1y, rfl, h1x, h1y⟩ := hx
  obtain ⟨W, hW, S⟩ : ∃ W, W = w.alloc (.cells #[.bool s1x, .slice a1x n1x c1x, .bool s1y, .slice a1y n1y c1y] 31) ∧ Sto w W [((w.heap.size, 1), IsI k d), ((w.heap.size, 0), IsI k n)] := ⟨_, rfl, ((Sto.start w).new2 (w.heap.size) (by simp) s1x s1y a1x a1y n1x c1x n1y c1y 31 (IsI k n) (IsI k d) (IsI.gstb _ _) (h1x) (IsI.gstb _ _) (h1y))⟩
  clear h1x h1y
  go_enter Tryz.func41, Tryz.ntmps41
  go_upto_region 1 with (fail)
  rw [← hW]
  clear hW
  refine rgs 25 [some 3, some 4, some 5, some 6, some 7, some 8, some 9, some 10, some 11, some 12, some 13, some 14, some 15, some 16, some 17, some 18, some 19, some 20, some 21, some 22, some 23, some 24, some 25, some 26, some 2] [IsV (.pointer (some ⟨w.heap.size, 0, none⟩)), IsI k n, IsV (.bool true), IsV (.bool true), IsV (.pointer (some ⟨w.heap.size, 2, none⟩)), IsI k d, IsV (.bool true), IsV (.bool true), IsV (.bool true), IsV (.pointer (some ⟨w.heap.size, 2, none⟩)), IsI k d, IsV (.int .i64 sg), IsV (.bool true), IsV (.bool true), IsV (.bool true), IsV (.pointer (some ⟨w.heap.size, 0, none⟩)), IsI k n, IsV (.pointer (some ⟨w.heap.size, 2, none⟩)), IsI k d, IsI (max k k) (((gg : Nat) : Int)), IsI 2 1, IsV (.int .i64 c1), IsV (.bool true), IsV (.bool true), IsV (.bool true)] [] ?_ ?_
  · refine Rc (fa (fa_Rat0 (w.heap.size) 0) (Od.lit 1)) ?_
    refine Rc (ldI S 1 (w.heap.size) 0 (Od.lc 0 3) ld_Int) ?_
    refine Rc (cl1 (en Tryz.func91) (Od.lc (Φ := IsI k n) 1 4) (fun x0 w' hE d0 => Valid_f d0)) ?_
    refine Rc (mv (Od.lc 2 5)) ?_
    refine RcG 3 6 true (fa (fa_Rat1 (w.heap.size) 0) (Od.lit 1)) ?_
    refine RcG 3 6 true (ldI S 0 (w.heap.size) 1 (Od.lc 4 7) ld_Int) ?_
    refine RcG 3 6 true (cl1 (en Tryz.func91) (Od.lc (Φ := IsI k d) 5 8) (fun x0 w' hE d0 => Valid_f d0)) ?_
    refine Rc (pk (Od.loc 3 6) (Od.lc 6 9)) ?_
    refine Rc (mv (Od.lc 7 10)) ?_
    refine RcG 8 11 true (fa (fa_Rat1 (w.heap.size) 0) (Od.lit 1)) ?_
    refine RcG 8 11 true (ldI S 0 (w.heap.size) 1 (Od.lc 9 12) ld_Int) ?_
    refine RcG 8 11 true (cl1 (en Tryz.func85) (Od.lc (Φ := IsI k d) 10 13) (fun x0 w' hE d0 => Calls.mono (Sign_f d0) fun _ _ h => h.int (HS.out))) ?_
    refine RcG 8 11 true (bn (r := .bool true) (Od.loc 11 14) Od.con (hr := fun w => by have hx9 := HS1.out; go_simp)) ?_
    refine Rc (pk (Od.loc 8 11) (Od.lc 12 15)) ?_
    refine Rc (mv (Od.lc 13 16)) ?_
    refine RcG 14 17 true (fa (fa_Rat0 (w.heap.size) 0) (Od.lit 1)) ?_
    refine RcG 14 17 true (ldI S 1 (w.heap.size) 0 (Od.lc 15 18) ld_Int) ?_
    refine RcG 14 17 true (fa (fa_Rat1 (w.heap.size) 0) (Od.lit 1)) ?_
    refine RcG 14 17 true (ldI S 0 (w.heap.size) 1 (Od.lc 17 20) ld_Int) ?_
    refine RcG 14 17 true (cl2 (en Tryz.func92) (Od.lc (Φ := IsI k n) 16 19) (Od.lc (Φ := IsI k d) 18 21) (fun x0 x1 w' hE d0 d1 => Calls.mono (Gcd_f d0 d1 (by have := HK.out; omega) (by have := HK.out; omega)) fun _ _ h => h.eqz HG.out)) ?_
    refine RcG 14 17 true (cl1 (en Tryz.func78) Od.con (fun x0 w' hE d0 => by { obtain rfl : x0 = .int .i64 1 := d0; exact Of_f _ 1 (by decide) (by decide) })) ?_
    refine RcG 14 17 true (cl2 (en Tryz.func46) (Od.lc (Φ := IsI (max k k) (((gg : Nat) : Int))) 19 22) (Od.lc (Φ := IsI 2 1) 20 23) (fun x0 x1 w' hE d0 d1 => Calls.mono (Cmp_f d0 d1 (by have := HK.out; omega) (by decide)) fun _ _ h => h.int HC.out)) ?_
    refine RcG 14 17 true (bn (r := .bool true) (Od.loc 21 24) Od.con (hr := fun w => by have hx9 := HC1.out; go_simp)) ?_
    refine Rc (pk (Od.loc 14 17) (Od.lc 22 25)) ?_
    refine Rc (mv (Od.lc 23 26)) ?_
    exact RgAll.nil
  intro v W1 e1 hΦ _
  replace S := S.mono e1
  have v24 : v 24 = .bool true := hΦ 24 (by decide)
  simp only [layL, Act.put, List.setIfInBounds_toArray, List.set_cons_zero, List.set_cons_succ, Nat.reduceAdd]
  rw [v24]
  clear v24 hΦ e1
  refine wpList_nil ?_
  go_wp2_with fail
  exact bodyPost_ret (v := .bool true) (by simp [results, Tryz.results41, go_sem]) rfl (⟨_, rfl, S.ext, rfl⟩)

set_option maxRecDepth 100000 in
set_option maxHeartbeats 4000000 in
theorem qValid_ff {k : Nat} {n d : Int} {x : Value} {w : World} (hx : IsQ (IsI k n) (IsI k d) x w) (hk : k ≤ 1000) (hd : 0 < d) (hg : Int.gcd n d ≠ 1) : Calls Tryz.prog 41 #[x] w (Ret w (IsV (.bool false))) := by
  have HK := hid hk
  obtain ⟨sg, hsg⟩ : ∃ s, d.sign = s := ⟨_, rfl⟩
  have HS := hid hsg
  have HS1 := hid (show decide (0 < sg) = true by rw [decide_eq_true_iff, ← hsg, Int.sign_pos_iff]; omega)
  obtain ⟨gg, hgg⟩ : ∃ g, Int.gcd n d = g := ⟨_, rfl⟩
  have HG := hid (show ((Int.gcd n d : Nat) : Int) = ((gg : Nat) : Int) by rw [hgg])
  rw [hgg] at hg
  obtain ⟨c1, hc⟩ : ∃ c, cmpI ((gg : Nat) : Int) 1 = c := ⟨_, rfl⟩
  have HC := hid hc
  have HC1 := hid (show (c1 == 0) = false by rw [← hc]; unfold cmpI; rcases Nat.lt_or_gt_of_ne hg with h | h <;> first | (rw [if_pos (by omega)]; rfl) | (rw [if_neg (by omega), if_pos (by omega)]; rfl))
  clear hc
  clear hk hd hsg hg hgg
  obtain ⟨s1x, a1x, n1x, c1x, s1y, a1y, n1y, c1y, rfl, h1x, h1y⟩ := hx
  obtain ⟨W, hW, S⟩ : ∃ W, W = w.alloc (.cells #[.bool s1x, .slice a1x n1x c1x, .bool s1y, .slice a1y n1y c1y] 31) ∧ Sto w W [((w.heap.size, 1), IsI k d), ((w.heap.size, 0), IsI k n)] := ⟨_, rfl, ((Sto.start w).new2 (w.heap.size) (by simp) s1x s1y a1x a1y n1x c1x n1y c1y 31 (IsI k n) (IsI k d) (IsI.gstb _ _) (h1x) (IsI.gstb _ _) (h1y))⟩
  clear h1x h1y
  go_enter Tryz.func41, Tryz.ntmps41
  go_upto_region 1 with (fail)
  rw [← hW]
  clear hW
  refine rgs 25 [some 3, some 4, some 5, some 6, some 7, some 8, some 9, some 10, some 11, some 12, some 13, some 14, some 15, some 16, some 17, some 18, some 19, some 20, some 21, some 22, some 23, some 24, some 25, some 26, some 2] [IsV (.pointer (some ⟨w.heap.size, 0, none⟩)), IsI k n, IsV (.bool true), IsV (.bool true), IsV (.pointer (some ⟨w.heap.size, 2, none⟩)), IsI k d, IsV (.bool true), IsV (.bool true), IsV (.bool true), IsV (.pointer (some ⟨w.heap.size, 2, none⟩)), IsI k d, IsV (.int .i64 sg), IsV (.bool true), IsV (.bool true), IsV (.bool true), IsV (.pointer (some ⟨w.heap.size, 0, none⟩)), IsI k n, IsV (.pointer (some ⟨w.heap.size, 2, none⟩)), IsI k d, IsI (max k k) (((gg : Nat) : Int)), IsI 2 1, IsV (.int .i64 c1), IsV (.bool false), IsV (.bool false), IsV (.bool false)] [] ?_ ?_
  · refine Rc (fa (fa_Rat0 (w.heap.size) 0) (Od.lit 1)) ?_
    refine Rc (ldI S 1 (w.heap.size) 0 (Od.lc 0 3) ld_Int) ?_
    refine Rc (cl1 (en Tryz.func91) (Od.lc (Φ := IsI k n) 1 4) (fun x0 w' hE d0 => Valid_f d0)) ?_
    refine Rc (mv (Od.lc 2 5)) ?_
    refine RcG 3 6 true (fa (fa_Rat1 (w.heap.size) 0) (Od.lit 1)) ?_
    refine RcG 3 6 true (ldI S 0 (w.heap.size) 1 (Od.lc 4 7) ld_Int) ?_
    refine RcG 3 6 true (cl1 (en Tryz.func91) (Od.lc (Φ := IsI k d) 5 8) (fun x0 w' hE d0 => Valid_f d0)) ?_
    refine Rc (pk (Od.loc 3 6) (Od.lc 6 9)) ?_
    refine Rc (mv (Od.lc 7 10)) ?_
    refine RcG 8 11 true (fa (fa_Rat1 (w.heap.size) 0) (Od.lit 1)) ?_
    refine RcG 8 11 true (ldI S 0 (w.heap.size) 1 (Od.lc 9 12) ld_Int) ?_
    refine RcG 8 11 true (cl1 (en Tryz.func85) (Od.lc (Φ := IsI k d) 10 13) (fun x0 w' hE d0 => Calls.mono (Sign_f d0) fun _ _ h => h.int (HS.out))) ?_
    refine RcG 8 11 true (bn (r := .bool true) (Od.loc 11 14) Od.con (hr := fun w => by have hx9 := HS1.out; go_simp)) ?_
    refine Rc (pk (Od.loc 8 11) (Od.lc 12 15)) ?_
    refine Rc (mv (Od.lc 13 16)) ?_
    refine RcG 14 17 true (fa (fa_Rat0 (w.heap.size) 0) (Od.lit 1)) ?_
    refine RcG 14 17 true (ldI S 1 (w.heap.size) 0 (Od.lc 15 18) ld_Int) ?_
    refine RcG 14 17 true (fa (fa_Rat1 (w.heap.size) 0) (Od.lit 1)) ?_
    refine RcG 14 17 true (ldI S 0 (w.heap.size) 1 (Od.lc 17 20) ld_Int) ?_
    refine RcG 14 17 true (cl2 (en Tryz.func92) (Od.lc (Φ := IsI k n) 16 19) (Od.lc (Φ := IsI k d) 18 21) (fun x0 x1 w' hE d0 d1 => Calls.mono (Gcd_f d0 d1 (by have := HK.out; omega) (by have := HK.out; omega)) fun _ _ h => h.eqz HG.out)) ?_
    refine RcG 14 17 true (cl1 (en Tryz.func78) Od.con (fun x0 w' hE d0 => by { obtain rfl : x0 = .int .i64 1 := d0; exact Of_f _ 1 (by decide) (by decide) })) ?_
    refine RcG 14 17 true (cl2 (en Tryz.func46) (Od.lc (Φ := IsI (max k k) (((gg : Nat) : Int))) 19 22) (Od.lc (Φ := IsI 2 1) 20 23) (fun x0 x1 w' hE d0 d1 => Calls.mono (Cmp_f d0 d1 (by have := HK.out; omega) (by decide)) fun _ _ h => h.int HC.out)) ?_
    refine RcG 14 17 true (bn (r := .bool false) (Od.loc 21 24) Od.con (hr := fun w => by have hx9 := HC1.out; go_simp)) ?_
    refine Rc (pk (Od.loc 14 17) (Od.lc 22 25)) ?_
    refine Rc (mv (Od.lc 23 26)) ?_
    exact RgAll.nil
  intro v W1 e1 hΦ _
  replace S := S.mono e1
  have v24 : v 24 = .bool false := hΦ 24 (by decide)
  simp only [layL, Act.put, List.setIfInBounds_toArray, List.set_cons_zero, List.set_cons_succ, Nat.reduceAdd]
  rw [v24]
  clear v24 hΦ e1
  refine wpList_nil ?_
  go_wp2_with fail
  exact bodyPost_ret (v := .bool false) (by simp [results, Tryz.results41, go_sem]) rfl (⟨_, rfl, S.ext, rfl⟩)

theorem qValid_f {k : Nat} {n d : Int} {x : Value} {w : World} (hx : IsQ (IsI k n) (IsI k d) x w) (hk : k ≤ 1000) : Calls Tryz.prog 41 #[x] w (Ret w (IsV (.bool (validQ n d)))) := by
  unfold validQ
  by_cases hd : 0 < d
  · by_cases hg : Int.gcd n d = 1
    · rw [show (decide (0 < d) && (Int.gcd n d == 1)) = true by simp [hd, hg]]
      exact qValid_t hx hk hd hg
    · rw [show (decide (0 < d) && (Int.gcd n d == 1)) = false by simp [hg]]
      exact qValid_ff hx hk hd hg
  · rw [show (decide (0 < d) && (Int.gcd n d == 1)) = false by simp [hd]]
    exact qValid_0 hx hk (by omega)

set_option maxRecDepth 100000 in
set_option maxHeartbeats 4000000 in
theorem qText_1 {k : Nat} {n d : Int} {x : Value} {w : World} (hx : IsQ (IsI k n) (IsI k d) x w) (hk : k ≤ 162) (ht : Tab w) (tn : ByteArray) (h1 : encS (textS n) = .string tn ∧ textE n = 0) (h2 : encS (textS d) = .string ⟨#[49]⟩ ∧ textE d = 0) :
    Calls Tryz.prog 14 #[x] w (Ret w (IsT2 (IsV (.string tn)) (IsV (.int .i64 0)))) := by
  have HK := hid hk
  have HN := hid h1
  have HD := hid h2
  clear hk h1 h2
  obtain ⟨s1x, a1x, n1x, c1x, s1y, a1y, n1y, c1y, rfl, h1x, h1y⟩ := hx
  obtain ⟨W, hW, S⟩ : ∃ W, W = w.alloc (.cells #[.bool s1x, .slice a1x n1x c1x, .bool s1y, .slice a1y n1y c1y] 31) ∧ Sto w W [((w.heap.size, 1), IsI k d), ((w.heap.size, 0), IsI k n)] := ⟨_, rfl, ((Sto.start w).new2 (w.heap.size) (by simp) s1x s1y a1x a1y n1x c1x n1y c1y 31 (IsI k n) (IsI k d) (IsI.gstb _ _) (h1x) (IsI.gstb _ _) (h1y))⟩
  clear h1x h1y
  go_enter Tryz.func14, Tryz.ntmps14
  go_upto_region 1 with (fail)
  rw [← hW]
  clear hW
  refine rgs 8 [some 8, some 9, some 10, some 7, some 11, some 12, some 4, some 5] [IsV (.pointer (some ⟨w.heap.size, 0, none⟩)), IsI k n, IsT2 (IsV (.string tn)) (IsV (.int .i64 0)), IsT2 (IsV (.string tn)) (IsV (.int .i64 0)), IsV (.string tn), IsV (.int .i64 0), IsV (.string tn), IsV (.int .i64 0)] [] ?_ ?_
  · refine Rc (fa (fa_Rat0 (w.heap.size) 0) (Od.lit 1)) ?_
    refine Rc (ldI S 1 (w.heap.size) 0 (Od.lc 0 8) ld_Int) ?_
    refine Rc (cl1 (en Tryz.func45) (Od.lc (Φ := IsI k n) 1 9) (fun x0 w' hE d0 => (by have hh := Text_f d0 HK.out (ht.ext (S.ext.trans hE)); rw [HN.out.1, HN.out.2] at hh; exact hh))) ?_
    refine Rc (mv (Od.lc 2 10)) ?_
    refine Rc (ex (Od.loc 3 7) t20) ?_
    refine Rc (ex (Od.loc 3 7) t21) ?_
    refine Rc (mv (Od.lc 4 11)) ?_
    refine Rc (mv (Od.lc 5 12)) ?_
    exact RgAll.nil
  intro v W1 e1 hΦ _
  replace S := S.mono e1
  have v6 : v 6 = .string tn := hΦ 6 (by decide)
  have v7 : v 7 = .int .i64 0 := hΦ 7 (by decide)
  simp only [layL, Act.put, List.setIfInBounds_toArray, List.set_cons_zero, List.set_cons_succ, Nat.reduceAdd]
  rw [v6, v7]
  clear v6 v7 hΦ e1
  refine wpList_nil ?_
  go_upto_region 2 with (fail)
  refine rgs 2 [some 13, some 14] [IsV (.int .i64 0), IsV (.bool false)] [] ?_ ?_
  · refine Rc (mv (Od.lit 5)) ?_
    refine Rc (bn (r := .bool false) (Od.loc 0 13) Od.con (hr := fun w => by go_simp)) ?_
    exact RgAll.nil
  intro v W2 e1 hΦ _
  replace S := S.mono e1
  have v1 : v 1 = .bool false := hΦ 1 (by decide)
  simp only [layL, Act.put, List.setIfInBounds_toArray, List.set_cons_zero, List.set_cons_succ, Nat.reduceAdd]
  rw [v1]
  clear v1 hΦ e1
  refine wpList_nil ?_
  go_upto_region 4 with (fail)
  refine rgs 8 [some 17, some 18, some 19, some 16, some 20, some 21, some 6, some 5] [IsV (.pointer (some ⟨w.heap.size, 2, none⟩)), IsI k d, IsT2 (IsV (.string ⟨#[49]⟩)) (IsV (.int .i64 0)), IsT2 (IsV (.string ⟨#[49]⟩)) (IsV (.int .i64 0)), IsV (.string ⟨#[49]⟩), IsV (.int .i64 0), IsV (.string ⟨#[49]⟩), IsV (.int .i64 0)] [] ?_ ?_
  · refine Rc (fa (fa_Rat1 (w.heap.size) 0) (Od.lit 1)) ?_
    refine Rc (ldI S 0 (w.heap.size) 1 (Od.lc 0 17) ld_Int) ?_
    refine Rc (cl1 (en Tryz.func45) (Od.lc (Φ := IsI k d) 1 18) (fun x0 w' hE d0 => (by have hh := Text_f d0 HK.out (ht.ext (S.ext.trans hE)); rw [HD.out.1, HD.out.2] at hh; exact hh))) ?_
    refine Rc (mv (Od.lc 2 19)) ?_
    refine Rc (ex (Od.loc 3 16) t20) ?_
    refine Rc (ex (Od.loc 3 16) t21) ?_
    refine Rc (mv (Od.lc 4 20)) ?_
    refine Rc (mv (Od.lc 5 21)) ?_
    exact RgAll.nil
  intro v W3 e1 hΦ _
  replace S := S.mono e1
  have v6 : v 6 = .string ⟨#[49]⟩ := hΦ 6 (by decide)
  have v7 : v 7 = .int .i64 0 := hΦ 7 (by decide)
  simp only [layL, Act.put, List.setIfInBounds_toArray, List.set_cons_zero, List.set_cons_succ, Nat.reduceAdd]
  rw [v6, v7]
  clear v6 v7 hΦ e1
  refine wpList_nil ?_
  go_upto_region 5 with (fail)
  refine rgs 3 [some 23, some 24, some 22] [IsV (.int .i64 0), IsV (.bool false), IsV (.bool false)] [] ?_ ?_
  · refine Rc (mv (Od.lit 5)) ?_
    refine Rc (bn (r := .bool false) (Od.loc 0 23) Od.con (hr := fun w => by go_simp)) ?_
    refine Rc (mv (Od.lc 1 24)) ?_
    exact RgAll.nil
  intro v W4 e1 hΦ _
  replace S := S.mono e1
  have v2 : v 2 = .bool false := hΦ 2 (by decide)
  simp only [layL, Act.put, List.setIfInBounds_toArray, List.set_cons_zero, List.set_cons_succ, Nat.reduceAdd]
  rw [v2]
  clear v2 hΦ e1
  refine wpList_nil ?_
  go_upto_region 7 with (fail)
  refine rgs 3 [some 27, some 28, some 26] [IsV (.string ⟨#[49]⟩), IsV (.bool true), IsV (.bool true)] [] ?_ ?_
  · refine Rc (mv (Od.lit 6)) ?_
    refine Rc (bn (r := .bool true) (Od.loc 0 27) Od.con (hr := fun w => by go_simp)) ?_
    refine Rc (mv (Od.lc 1 28)) ?_
    exact RgAll.nil
  intro v W5 e1 hΦ _
  replace S := S.mono e1
  have v2 : v 2 = .bool true := hΦ 2 (by decide)
  simp only [layL, Act.put, List.setIfInBounds_toArray, List.set_cons_zero, List.set_cons_succ, Nat.reduceAdd]
  rw [v2]
  clear v2 hΦ e1
  refine wpList_nil ?_
  go_upto_region 8 with (fail)
  refine rgs 3 [some 29, some 2, some 3] [IsV (.string tn), IsV (.string tn), IsV (.int .i64 0)] [] ?_ ?_
  · refine Rc (mv (Od.lit 4)) ?_
    refine Rc (mv (Od.lc 0 29)) ?_
    refine Rc (mv Od.con) ?_
    exact RgAll.nil
  intro v W6 e1 hΦ _
  replace S := S.mono e1
  have v1 : v 1 = .string tn := hΦ 1 (by decide)
  have v2 : v 2 = .int .i64 0 := hΦ 2 (by decide)
  simp only [layL, Act.put, List.setIfInBounds_toArray, List.set_cons_zero, List.set_cons_succ, Nat.reduceAdd]
  rw [v1, v2]
  clear v1 v2 hΦ e1
  refine wpList_nil ?_
  go_wp2_with fail
  exact bodyPost_ret (v := .tuple #[.string tn, .int .i64 0]) (by simp [results, Tryz.results14, go_sem]) rfl (⟨_, rfl, S.ext, ⟨_, _, rfl, rfl, rfl⟩⟩)

set_option maxRecDepth 100000 in
set_option maxHeartbeats 4000000 in
theorem qText_n {k : Nat} {n d : Int} {x : Value} {w : World} (hx : IsQ (IsI k n) (IsI k d) x w) (hk : k ≤ 162) (ht : Tab w) (tn td : ByteArray) (h1 : encS (textS n) = .string tn ∧ textE n = 0) (h2 : encS (textS d) = .string td ∧ textE d = 0) (h3 : ¬td.toList = [49]) (hb : tn.size ≤ 100000 ∧ td.size ≤ 100000) :
    Calls Tryz.prog 14 #[x] w (Ret w (IsT2 (IsV (.string (tn ++ (⟨#[47]⟩ : ByteArray) ++ td))) (IsV (.int .i64 0)))) := by
  have HK := hid hk
  have HN := hid h1
  have HD := hid h2
  have HT := hid h3
  have HB := hid (show tn.size + 1 ≤ 9223372036854775807 ∧ tn.size + 1 + td.size ≤ 9223372036854775807 by omega)
  clear h3 hb
  clear hk h1 h2
  obtain ⟨s1x, a1x, n1x, c1x, s1y, a1y, n1y, c1y, rfl, h1x, h1y⟩ := hx
  obtain ⟨W, hW, S⟩ : ∃ W, W = w.alloc (.cells #[.bool s1x, .slice a1x n1x c1x, .bool s1y, .slice a1y n1y c1y] 31) ∧ Sto w W [((w.heap.size, 1), IsI k d), ((w.heap.size, 0), IsI k n)] := ⟨_, rfl, ((Sto.start w).new2 (w.heap.size) (by simp) s1x s1y a1x a1y n1x c1x n1y c1y 31 (IsI k n) (IsI k d) (IsI.gstb _ _) (h1x) (IsI.gstb _ _) (h1y))⟩
  clear h1x h1y
  go_enter Tryz.func14, Tryz.ntmps14
  go_upto_region 1 with (fail)
  rw [← hW]
  clear hW
  refine rgs 8 [some 8, some 9, some 10, some 7, some 11, some 12, some 4, some 5] [IsV (.pointer (some ⟨w.heap.size, 0, none⟩)), IsI k n, IsT2 (IsV (.string tn)) (IsV (.int .i64 0)), IsT2 (IsV (.string tn)) (IsV (.int .i64 0)), IsV (.string tn), IsV (.int .i64 0), IsV (.string tn), IsV (.int .i64 0)] [] ?_ ?_
  · refine Rc (fa (fa_Rat0 (w.heap.size) 0) (Od.lit 1)) ?_
    refine Rc (ldI S 1 (w.heap.size) 0 (Od.lc 0 8) ld_Int) ?_
    refine Rc (cl1 (en Tryz.func45) (Od.lc (Φ := IsI k n) 1 9) (fun x0 w' hE d0 => (by have hh := Text_f d0 HK.out (ht.ext (S.ext.trans hE)); rw [HN.out.1, HN.out.2] at hh; exact hh))) ?_
    refine Rc (mv (Od.lc 2 10)) ?_
    refine Rc (ex (Od.loc 3 7) t20) ?_
    refine Rc (ex (Od.loc 3 7) t21) ?_
    refine Rc (mv (Od.lc 4 11)) ?_
    refine Rc (mv (Od.lc 5 12)) ?_
    exact RgAll.nil
  intro v W1 e1 hΦ _
  replace S := S.mono e1
  have v6 : v 6 = .string tn := hΦ 6 (by decide)
  have v7 : v 7 = .int .i64 0 := hΦ 7 (by decide)
  simp only [layL, Act.put, List.setIfInBounds_toArray, List.set_cons_zero, List.set_cons_succ, Nat.reduceAdd]
  rw [v6, v7]
  clear v6 v7 hΦ e1
  refine wpList_nil ?_
  go_upto_region 2 with (fail)
  refine rgs 2 [some 13, some 14] [IsV (.int .i64 0), IsV (.bool false)] [] ?_ ?_
  · refine Rc (mv (Od.lit 5)) ?_
    refine Rc (bn (r := .bool false) (Od.loc 0 13) Od.con (hr := fun w => by go_simp)) ?_
    exact RgAll.nil
  intro v W2 e1 hΦ _
  replace S := S.mono e1
  have v1 : v 1 = .bool false := hΦ 1 (by decide)
  simp only [layL, Act.put, List.setIfInBounds_toArray, List.set_cons_zero, List.set_cons_succ, Nat.reduceAdd]
  rw [v1]
  clear v1 hΦ e1
  refine wpList_nil ?_
  go_upto_region 4 with (fail)
  refine rgs 8 [some 17, some 18, some 19, some 16, some 20, some 21, some 6, some 5] [IsV (.pointer (some ⟨w.heap.size, 2, none⟩)), IsI k d, IsT2 (IsV (.string td)) (IsV (.int .i64 0)), IsT2 (IsV (.string td)) (IsV (.int .i64 0)), IsV (.string td), IsV (.int .i64 0), IsV (.string td), IsV (.int .i64 0)] [] ?_ ?_
  · refine Rc (fa (fa_Rat1 (w.heap.size) 0) (Od.lit 1)) ?_
    refine Rc (ldI S 0 (w.heap.size) 1 (Od.lc 0 17) ld_Int) ?_
    refine Rc (cl1 (en Tryz.func45) (Od.lc (Φ := IsI k d) 1 18) (fun x0 w' hE d0 => (by have hh := Text_f d0 HK.out (ht.ext (S.ext.trans hE)); rw [HD.out.1, HD.out.2] at hh; exact hh))) ?_
    refine Rc (mv (Od.lc 2 19)) ?_
    refine Rc (ex (Od.loc 3 16) t20) ?_
    refine Rc (ex (Od.loc 3 16) t21) ?_
    refine Rc (mv (Od.lc 4 20)) ?_
    refine Rc (mv (Od.lc 5 21)) ?_
    exact RgAll.nil
  intro v W3 e1 hΦ _
  replace S := S.mono e1
  have v6 : v 6 = .string td := hΦ 6 (by decide)
  have v7 : v 7 = .int .i64 0 := hΦ 7 (by decide)
  simp only [layL, Act.put, List.setIfInBounds_toArray, List.set_cons_zero, List.set_cons_succ, Nat.reduceAdd]
  rw [v6, v7]
  clear v6 v7 hΦ e1
  refine wpList_nil ?_
  go_upto_region 5 with (fail)
  refine rgs 3 [some 23, some 24, some 22] [IsV (.int .i64 0), IsV (.bool false), IsV (.bool false)] [] ?_ ?_
  · refine Rc (mv (Od.lit 5)) ?_
    refine Rc (bn (r := .bool false) (Od.loc 0 23) Od.con (hr := fun w => by go_simp)) ?_
    refine Rc (mv (Od.lc 1 24)) ?_
    exact RgAll.nil
  intro v W4 e1 hΦ _
  replace S := S.mono e1
  have v2 : v 2 = .bool false := hΦ 2 (by decide)
  simp only [layL, Act.put, List.setIfInBounds_toArray, List.set_cons_zero, List.set_cons_succ, Nat.reduceAdd]
  rw [v2]
  clear v2 hΦ e1
  refine wpList_nil ?_
  go_upto_region 7 with (fail)
  refine rgs 3 [some 27, some 28, some 26] [IsV (.string td), IsV (.bool false), IsV (.bool false)] [] ?_ ?_
  · refine Rc (mv (Od.lit 6)) ?_
    refine Rc (bn (r := .bool false) (Od.loc 0 27) Od.con (hr := fun w => by have hx9 := HT.out; go_simp)) ?_
    refine Rc (mv (Od.lc 1 28)) ?_
    exact RgAll.nil
  intro v W5 e1 hΦ _
  replace S := S.mono e1
  have v2 : v 2 = .bool false := hΦ 2 (by decide)
  simp only [layL, Act.put, List.setIfInBounds_toArray, List.set_cons_zero, List.set_cons_succ, Nat.reduceAdd]
  rw [v2]
  clear v2 hΦ e1
  refine wpList_nil ?_
  go_upto_region 9 with (fail)
  refine rgs 6 [some 30, some 31, some 32, some 33, some 2, some 3] [IsV (.string tn), IsV (.string (tn ++ (⟨#[47]⟩ : ByteArray))), IsV (.string td), IsV (.string (tn ++ (⟨#[47]⟩ : ByteArray) ++ td)), IsV (.string (tn ++ (⟨#[47]⟩ : ByteArray) ++ td)), IsV (.int .i64 0)] [] ?_ ?_
  · refine Rc (mv (Od.lit 4)) ?_
    refine Rc (bn (r := .string (tn ++ (⟨#[47]⟩ : ByteArray))) (Od.loc 0 30) Od.con (hr := fun w => by have hb9 := HB.out.1; go_simp)) ?_
    refine Rc (mv (Od.lit 6)) ?_
    refine Rc (bn (r := .string (tn ++ (⟨#[47]⟩ : ByteArray) ++ td)) (Od.loc 1 31) (Od.loc 2 32) (hr := fun w => by have hb9 := HB.out.2; go_simp)) ?_
    refine Rc (mv (Od.lc 3 33)) ?_
    refine Rc (mv Od.con) ?_
    exact RgAll.nil
  intro v W6 e1 hΦ _
  replace S := S.mono e1
  have v4 : v 4 = .string (tn ++ (⟨#[47]⟩ : ByteArray) ++ td) := hΦ 4 (by decide)
  have v5 : v 5 = .int .i64 0 := hΦ 5 (by decide)
  simp only [layL, Act.put, List.setIfInBounds_toArray, List.set_cons_zero, List.set_cons_succ, Nat.reduceAdd]
  rw [v4, v5]
  clear v4 v5 hΦ e1
  refine wpList_nil ?_
  go_wp2_with fail
  exact bodyPost_ret (v := .tuple #[.string (tn ++ (⟨#[47]⟩ : ByteArray) ++ td), .int .i64 0]) (by simp [results, Tryz.results14, go_sem]) rfl (⟨_, rfl, S.ext, ⟨_, _, rfl, rfl, rfl⟩⟩)
end Go.Proofs.YtcgdkfadcglekaaGreatDoor
