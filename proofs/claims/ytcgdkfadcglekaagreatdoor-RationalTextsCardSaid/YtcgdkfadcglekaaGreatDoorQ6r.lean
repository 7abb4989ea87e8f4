/-
  Text of the reference of package rational. (Printed by wip/gen/rat6.py with SEL=rq, parted by hand.)
-/
import Derived.Test.YtcgdkfadcglekaaGreatDoorQ6v
import Derived.Test.YtcgdkfadcglekaaGreatDoorRText
namespace Go.Proofs.YtcgdkfadcglekaaGreatDoor
open Go Go.RowKit

set_option maxRecDepth 100000 in
set_option maxHeartbeats 4000000 in
theorem rqText_1 {k : Nat} {n d : Int} {x : Value} {w : World} (hx : IsQ (IsI k n) (IsI k d) x w) (hk : k ≤ 162) (tn : ByteArray) (h1 : encS (textS n) = .string tn ∧ textE n = 0) (h2 : encS (textS d) = .string ⟨#[49]⟩ ∧ textE d = 0) :
    Calls Tryz.prog 15 #[x] w (Ret w (IsT2 (IsV (.string tn)) (IsV (.int .i64 0)))) := by
  have HK := hid hk
  have HN := hid h1
  have HD := hid h2
  clear hk h1 h2
  obtain ⟨s1x, a1x, n1x, c1x, s1y, a1y, n1y, c1y, rfl, h1x, h1y⟩ := hx
  obtain ⟨W, hW, S⟩ : ∃ W, W = w.alloc (.cells #[.bool s1x, .slice a1x n1x c1x, .bool s1y, .slice a1y n1y c1y] 31) ∧ Sto w W [((w.heap.size, 1), IsI k d), ((w.heap.size, 0), IsI k n)] := ⟨_, rfl, ((Sto.start w).new2 (w.heap.size) (by simp) s1x s1y a1x a1y n1x c1x n1y c1y 31 (IsI k n) (IsI k d) (IsI.gstb _ _) (h1x) (IsI.gstb _ _) (h1y))⟩
  clear h1x h1y
  go_enter Tryz.func15, Tryz.ntmps15
  go_upto_region 1 with (fail)
  rw [← hW]
  clear hW
  refine rgs 8 [some 9, some 10, some 11, some 8, some 12, some 13, some 4, some 5] [IsV (.pointer (some ⟨w.heap.size, 0, none⟩)), IsI k n, IsT2 (IsV (.string tn)) (IsV (.int .i64 0)), IsT2 (IsV (.string tn)) (IsV (.int .i64 0)), IsV (.string tn), IsV (.int .i64 0), IsV (.string tn), IsV (.int .i64 0)] [] ?_ ?_
  · refine Rc (fa (fa_Rat0 (w.heap.size) 0) (Od.lit 1)) ?_
    refine Rc (ldI S 1 (w.heap.size) 0 (Od.lc 0 9) ld_Int) ?_
    refine Rc (cl1 (en Tryz.func71) (Od.lc (Φ := IsI k n) 1 10) (fun x0 w' hE d0 => (by have hh := RText_f d0 HK.out; rw [HN.out.1, HN.out.2] at hh; exact hh))) ?_
    refine Rc (mv (Od.lc 2 11)) ?_
    refine Rc (ex (Od.loc 3 8) t20) ?_
    refine Rc (ex (Od.loc 3 8) t21) ?_
    refine Rc (mv (Od.lc 4 12)) ?_
    refine Rc (mv (Od.lc 5 13)) ?_
    exact RgAll.nil
  intro v W1 e1 hΦ _
  replace S := S.mono e1
  have v6 : v 6 = .string tn := hΦ 6 (by decide)
  have v7 : v 7 = .int .i64 0 := hΦ 7 (by decide)
  simp only [layL, Act.put, List.setIfInBounds_toArray, List.set_cons_zero, List.set_cons_succ, Nat.reduceAdd]
  rw [v6, v7]
  clear v6 v7 hΦ e1
  refine wpList_nil ?_
  go_upto_region 2 with (fail)
  refine rgs 8 [some 15, some 16, some 17, some 14, some 18, some 19, some 6, some 7] [IsV (.pointer (some ⟨w.heap.size, 2, none⟩)), IsI k d, IsT2 (IsV (.string ⟨#[49]⟩)) (IsV (.int .i64 0)), IsT2 (IsV (.string ⟨#[49]⟩)) (IsV (.int .i64 0)), IsV (.string ⟨#[49]⟩), IsV (.int .i64 0), IsV (.string ⟨#[49]⟩), IsV (.int .i64 0)] [] ?_ ?_
  · refine Rc (fa (fa_Rat1 (w.heap.size) 0) (Od.lit 1)) ?_
    refine Rc (ldI S 0 (w.heap.size) 1 (Od.lc 0 15) ld_Int) ?_
    refine Rc (cl1 (en Tryz.func71) (Od.lc (Φ := IsI k d) 1 16) (fun x0 w' hE d0 => (by have hh := RText_f d0 HK.out; rw [HD.out.1, HD.out.2] at hh; exact hh))) ?_
    refine Rc (mv (Od.lc 2 17)) ?_
    refine Rc (ex (Od.loc 3 14) t20) ?_
    refine Rc (ex (Od.loc 3 14) t21) ?_
    refine Rc (mv (Od.lc 4 18)) ?_
    refine Rc (mv (Od.lc 5 19)) ?_
    exact RgAll.nil
  intro v W2 e1 hΦ _
  replace S := S.mono e1
  have v6 : v 6 = .string ⟨#[49]⟩ := hΦ 6 (by decide)
  have v7 : v 7 = .int .i64 0 := hΦ 7 (by decide)
  simp only [layL, Act.put, List.setIfInBounds_toArray, List.set_cons_zero, List.set_cons_succ, Nat.reduceAdd]
  rw [v6, v7]
  clear v6 v7 hΦ e1
  refine wpList_nil ?_
  go_upto_region 3 with (fail)
  refine rgs 6 [some 20, some 21, some 22, some 23, some 24, some 25] [IsV (.int .i64 0), IsV (.bool false), IsV (.bool false), IsV (.int .i64 0), IsV (.bool false), IsV (.bool false)] [] ?_ ?_
  · refine Rc (mv (Od.lit 5)) ?_
    refine Rc (bn (r := .bool false) (Od.loc 0 20) Od.con (hr := fun w => by go_simp)) ?_
    refine Rc (mv (Od.lc 1 21)) ?_
    refine RcG 2 22 false (mv (Od.lit 7)) ?_
    refine RcG 2 22 false (bn (r := .bool false) (Od.loc 3 23) Od.con (hr := fun w => by go_simp)) ?_
    refine Rc (pk (Od.loc 2 22) (Od.lc 4 24)) ?_
    exact RgAll.nil
  intro v W3 e1 hΦ _
  replace S := S.mono e1
  have v5 : v 5 = .bool false := hΦ 5 (by decide)
  simp only [layL, Act.put, List.setIfInBounds_toArray, List.set_cons_zero, List.set_cons_succ, Nat.reduceAdd]
  rw [v5]
  clear v5 hΦ e1
  refine wpList_nil ?_
  go_upto_region 5 with (fail)
  refine rgs 2 [some 26, some 27] [IsV (.string ⟨#[49]⟩), IsV (.bool true)] [] ?_ ?_
  · refine Rc (mv (Od.lit 6)) ?_
    refine Rc (bn (r := .bool true) (Od.loc 0 26) Od.con (hr := fun w => by go_simp)) ?_
    exact RgAll.nil
  intro v W4 e1 hΦ _
  replace S := S.mono e1
  have v1 : v 1 = .bool true := hΦ 1 (by decide)
  simp only [layL, Act.put, List.setIfInBounds_toArray, List.set_cons_zero, List.set_cons_succ, Nat.reduceAdd]
  rw [v1]
  clear v1 hΦ e1
  refine wpList_nil ?_
  go_upto_region 6 with (fail)
  refine rgs 3 [some 28, some 2, some 3] [IsV (.string tn), IsV (.string tn), IsV (.int .i64 0)] [] ?_ ?_
  · refine Rc (mv (Od.lit 4)) ?_
    refine Rc (mv (Od.lc 0 28)) ?_
    refine Rc (mv Od.con) ?_
    exact RgAll.nil
  intro v W5 e1 hΦ _
  replace S := S.mono e1
  have v1 : v 1 = .string tn := hΦ 1 (by decide)
  have v2 : v 2 = .int .i64 0 := hΦ 2 (by decide)
  simp only [layL, Act.put, List.setIfInBounds_toArray, List.set_cons_zero, List.set_cons_succ, Nat.reduceAdd]
  rw [v1, v2]
  clear v1 v2 hΦ e1
  refine wpList_nil ?_
  go_wp2_with fail
  exact bodyPost_ret (v := .tuple #[.string tn, .int .i64 0]) (by simp [results, Tryz.results15, go_sem]) rfl (⟨_, rfl, S.ext, ⟨_, _, rfl, rfl, rfl⟩⟩)

set_option maxRecDepth 100000 in
set_option maxHeartbeats 4000000 in
theorem rqText_n {k : Nat} {n d : Int} {x : Value} {w : World} (hx : IsQ (IsI k n) (IsI k d) x w) (hk : k ≤ 162) (tn td : ByteArray) (h1 : encS (textS n) = .string tn ∧ textE n = 0) (h2 : encS (textS d) = .string td ∧ textE d = 0) (h3 : ¬td.toList = [49]) (hb : tn.size ≤ 100000 ∧ td.size ≤ 100000) :
    Calls Tryz.prog 15 #[x] w (Ret w (IsT2 (IsV (.string (tn ++ (⟨#[47]⟩ : ByteArray) ++ td))) (IsV (.int .i64 0)))) := by
  have HK := hid hk
  have HN := hid h1
  have HD := hid h2
  have HT := hid h3
  have HB := hid (show tn.size + 1 ≤ 9223372036854775807 ∧ tn.size + 1 + td.size ≤ 9223372036854775807 by omega)
  clear h3 hb
  clear hk h1 h2
  obtain ⟨s1x, a1x, n1x, c1x, s1y, a1y, n1y, c1y, rfl, h1x, h1y⟩ := hx
  obtain ⟨W, hW, S⟩ : ∃ W, W = w.alloc (.cells #[.bool s1x, .slice a1x n1x c1x, .bool s1y, .slice a1y n1y c1y] 31) ∧ Sto w W [((w.heap.size, 1), IsI k d), ((w.heap.size, 0), IsI k n)] := ⟨_, rfl, ((Sto.start w).new2 (w.heap.size) (by simp) s1x s1y a1x a1y n1x c1x n1y c1y 31 (IsI k n) (IsI k d) (IsI.gstb _ _) (h1x) (IsI.gstb _ _) (h1y))⟩
  clear h1x h1y
  go_enter Tryz.func15, Tryz.ntmps15
  go_upto_region 1 with (fail)
  rw [← hW]
  clear hW
  refine rgs 8 [some 9, some 10, some 11, some 8, some 12, some 13, some 4, some 5] [IsV (.pointer (some ⟨w.heap.size, 0, none⟩)), IsI k n, IsT2 (IsV (.string tn)) (IsV (.int .i64 0)), IsT2 (IsV (.string tn)) (IsV (.int .i64 0)), IsV (.string tn), IsV (.int .i64 0), IsV (.string tn), IsV (.int .i64 0)] [] ?_ ?_
  · refine Rc (fa (fa_Rat0 (w.heap.size) 0) (Od.lit 1)) ?_
    refine Rc (ldI S 1 (w.heap.size) 0 (Od.lc 0 9) ld_Int) ?_
    refine Rc (cl1 (en Tryz.func71) (Od.lc (Φ := IsI k n) 1 10) (fun x0 w' hE d0 => (by have hh := RText_f d0 HK.out; rw [HN.out.1, HN.out.2] at hh; exact hh))) ?_
    refine Rc (mv (Od.lc 2 11)) ?_
    refine Rc (ex (Od.loc 3 8) t20) ?_
    refine Rc (ex (Od.loc 3 8) t21) ?_
    refine Rc (mv (Od.lc 4 12)) ?_
    refine Rc (mv (Od.lc 5 13)) ?_
    exact RgAll.nil
  intro v W1 e1 hΦ _
  replace S := S.mono e1
  have v6 : v 6 = .string tn := hΦ 6 (by decide)
  have v7 : v 7 = .int .i64 0 := hΦ 7 (by decide)
  simp only [layL, Act.put, List.setIfInBounds_toArray, List.set_cons_zero, List.set_cons_succ, Nat.reduceAdd]
  rw [v6, v7]
  clear v6 v7 hΦ e1
  refine wpList_nil ?_
  go_upto_region 2 with (fail)
  refine rgs 8 [some 15, some 16, some 17, some 14, some 18, some 19, some 6, some 7] [IsV (.pointer (some ⟨w.heap.size, 2, none⟩)), IsI k d, IsT2 (IsV (.string td)) (IsV (.int .i64 0)), IsT2 (IsV (.string td)) (IsV (.int .i64 0)), IsV (.string td), IsV (.int .i64 0), IsV (.string td), IsV (.int .i64 0)] [] ?_ ?_
  · refine Rc (fa (fa_Rat1 (w.heap.size) 0) (Od.lit 1)) ?_
    refine Rc (ldI S 0 (w.heap.size) 1 (Od.lc 0 15) ld_Int) ?_
    refine Rc (cl1 (en Tryz.func71) (Od.lc (Φ := IsI k d) 1 16) (fun x0 w' hE d0 => (by have hh := RText_f d0 HK.out; rw [HD.out.1, HD.out.2] at hh; exact hh))) ?_
    refine Rc (mv (Od.lc 2 17)) ?_
    refine Rc (ex (Od.loc 3 14) t20) ?_
    refine Rc (ex (Od.loc 3 14) t21) ?_
    refine Rc (mv (Od.lc 4 18)) ?_
    refine Rc (mv (Od.lc 5 19)) ?_
    exact RgAll.nil
  intro v W2 e1 hΦ _
  replace S := S.mono e1
  have v6 : v 6 = .string td := hΦ 6 (by decide)
  have v7 : v 7 = .int .i64 0 := hΦ 7 (by decide)
  simp only [layL, Act.put, List.setIfInBounds_toArray, List.set_cons_zero, List.set_cons_succ, Nat.reduceAdd]
  rw [v6, v7]
  clear v6 v7 hΦ e1
  refine wpList_nil ?_
  go_upto_region 3 with (fail)
  refine rgs 6 [some 20, some 21, some 22, some 23, some 24, some 25] [IsV (.int .i64 0), IsV (.bool false), IsV (.bool false), IsV (.int .i64 0), IsV (.bool false), IsV (.bool false)] [] ?_ ?_
  · refine Rc (mv (Od.lit 5)) ?_
    refine Rc (bn (r := .bool false) (Od.loc 0 20) Od.con (hr := fun w => by go_simp)) ?_
    refine Rc (mv (Od.lc 1 21)) ?_
    refine RcG 2 22 false (mv (Od.lit 7)) ?_
    refine RcG 2 22 false (bn (r := .bool false) (Od.loc 3 23) Od.con (hr := fun w => by go_simp)) ?_
    refine Rc (pk (Od.loc 2 22) (Od.lc 4 24)) ?_
    exact RgAll.nil
  intro v W3 e1 hΦ _
  replace S := S.mono e1
  have v5 : v 5 = .bool false := hΦ 5 (by decide)
  simp only [layL, Act.put, List.setIfInBounds_toArray, List.set_cons_zero, List.set_cons_succ, Nat.reduceAdd]
  rw [v5]
  clear v5 hΦ e1
  refine wpList_nil ?_
  go_upto_region 5 with (fail)
  refine rgs 2 [some 26, some 27] [IsV (.string td), IsV (.bool false)] [] ?_ ?_
  · refine Rc (mv (Od.lit 6)) ?_
    refine Rc (bn (r := .bool false) (Od.loc 0 26) Od.con (hr := fun w => by have hx9 := HT.out; go_simp)) ?_
    exact RgAll.nil
  intro v W4 e1 hΦ _
  replace S := S.mono e1
  have v1 : v 1 = .bool false := hΦ 1 (by decide)
  simp only [layL, Act.put, List.setIfInBounds_toArray, List.set_cons_zero, List.set_cons_succ, Nat.reduceAdd]
  rw [v1]
  clear v1 hΦ e1
  refine wpList_nil ?_
  go_upto_region 7 with (fail)
  refine rgs 6 [some 29, some 30, some 31, some 32, some 2, some 3] [IsV (.string tn), IsV (.string (tn ++ (⟨#[47]⟩ : ByteArray))), IsV (.string td), IsV (.string (tn ++ (⟨#[47]⟩ : ByteArray) ++ td)), IsV (.string (tn ++ (⟨#[47]⟩ : ByteArray) ++ td)), IsV (.int .i64 0)] [] ?_ ?_
  · refine Rc (mv (Od.lit 4)) ?_
    refine Rc (bn (r := .string (tn ++ (⟨#[47]⟩ : ByteArray))) (Od.loc 0 29) Od.con (hr := fun w => by have hb9 := HB.out.1; go_simp)) ?_
    refine Rc (mv (Od.lit 6)) ?_
    refine Rc (bn (r := .string (tn ++ (⟨#[47]⟩ : ByteArray) ++ td)) (Od.loc 1 30) (Od.loc 2 31) (hr := fun w => by have hb9 := HB.out.2; go_simp)) ?_
    refine Rc (mv (Od.lc 3 32)) ?_
    refine Rc (mv Od.con) ?_
    exact RgAll.nil
  intro v W5 e1 hΦ _
  replace S := S.mono e1
  have v4 : v 4 = .string (tn ++ (⟨#[47]⟩ : ByteArray) ++ td) := hΦ 4 (by decide)
  have v5 : v 5 = .int .i64 0 := hΦ 5 (by decide)
  simp only [layL, Act.put, List.setIfInBounds_toArray, List.set_cons_zero, List.set_cons_succ, Nat.reduceAdd]
  rw [v4, v5]
  clear v4 v5 hΦ e1
  refine wpList_nil ?_
  go_wp2_with fail
  exact bodyPost_ret (v := .tuple #[.string (tn ++ (⟨#[47]⟩ : ByteArray) ++ td), .int .i64 0]) (by simp [results, Tryz.results15, go_sem]) rfl (⟨_, rfl, S.ext, ⟨_, _, rfl, rfl, rfl⟩⟩)
end Go.Proofs.YtcgdkfadcglekaaGreatDoor
