/-
  Valid of both packages at every fraction that stands in memory, canonical or not (at most 40 words). (Printed by wip/gen/rat16.py.)
-/
import Derived.Test.YtcgdkfadcglekaaGreatDoorQ6v
import Derived.Test.YtcgdkfadcglekaaGreatDoorVal2
namespace Go.Proofs.YtcgdkfadcglekaaGreatDoor
open Go Go.RowKit

theorem ValidR_f {s : Bool} {xs : List Nat} {x : Value} {w : World} {b : Bool} (hx : IsR s xs x w) (h : validb s xs = b) : Calls Tryz.prog 91 #[x] w (Ret w (IsV (.bool b))) := by
  obtain ⟨a, n, c, rfl, h1⟩ := hx
  exact h ▸ Valid_w w s a n c xs h1
theorem RValidR_f {s : Bool} {xs : List Nat} {x : Value} {w : World} {b : Bool} (hx : IsR s xs x w) (h : validb s xs = b) : Calls Tryz.prog 89 #[x] w (Ret w (IsV (.bool b))) := by
  obtain ⟨a, n, c, rfl, h1⟩ := hx
  exact h ▸ RValid_w w s a n c xs h1
/-- The number of words with a sign. -/
def valZ (s : Bool) (xs : List Nat) : Int := if s then -(natVal xs : Int) else natVal xs
theorem IsR.canon {s : Bool} {xs : List Nat} {x : Value} {w : World} (hx : IsR s xs x w) (h : validb s xs = true) (k : Nat) (hk : xs.length ≤ k) : IsI k (valZ s xs) x w := by
  obtain ⟨a, n, c, rfl, h1⟩ := hx
  have hl := h1.len
  refine ⟨s, a, n, c, rfl, natVal xs, ⟨xs, h1, by omega, fun h0 => ?_, rfl⟩, fun h0 => ?_, rfl⟩
  · unfold validb at h
    rw [if_neg (by omega), hl] at h
    simpa using h
  · unfold validb at h
    rw [if_pos (by omega)] at h
    simpa using h

set_option maxRecDepth 100000 in
set_option maxHeartbeats 4000000 in
theorem qValid_N {s s' : Bool} {xs ys : List Nat} {x : Value} {w : World} (hx : IsQ (IsR s xs) (IsR s' ys) x w) (hn : validb s xs = false) : Calls Tryz.prog 41 #[x] w (Ret w (IsV (.bool false))) := by
  have HN := hid hn
  clear hn
  obtain ⟨s1x, a1x, n1x, c1x, s1y, a1y, n1y, c1y, rfl, ⟨_, _, _, e1, h1x⟩, ⟨_, _, _, e2, h1y⟩⟩ := hx
  simp only [Value.agg.injEq, Array.mk.injEq, List.cons.injEq, Value.bool.injEq, Value.slice.injEq, and_true] at e1 e2
  obtain ⟨rfl, rfl, rfl, rfl⟩ := e1
  obtain ⟨rfl, rfl, rfl, rfl⟩ := e2
  obtain ⟨W, hW, S⟩ : ∃ W, W = w.alloc (.cells #[.bool s1x, .slice a1x n1x c1x, .bool s1y, .slice a1y n1y c1y] 31) ∧ Sto w W [((w.heap.size, 1), IsR s1y ys), ((w.heap.size, 0), IsR s1x xs)] := ⟨_, rfl, ((Sto.start w).new2 (w.heap.size) (by simp) s1x s1y a1x a1y n1x c1x n1y c1y 31 (IsR s1x xs) (IsR s1y ys) (IsR.gstb _ _) (⟨_, _, _, rfl, h1x⟩) (IsR.gstb _ _) (⟨_, _, _, rfl, h1y⟩))⟩
  clear h1x h1y
  go_enter Tryz.func41, Tryz.ntmps41
  go_upto_region 1 with (fail)
  rw [← hW]
  clear hW
  refine rgs 25 [some 3, some 4, some 5, some 6, some 7, some 8, some 9, some 10, some 11, some 12, some 13, some 14, some 15, some 16, some 17, some 18, some 19, some 20, some 21, some 22, some 23, some 24, some 25, some 26, some 2] [IsV (.pointer (some ⟨w.heap.size, 0, none⟩)), IsR s1x xs, IsV (.bool false), IsV (.bool false), IsV (undef), IsV (undef), IsV (undef), IsV (.bool false), IsV (.bool false), IsV (undef), IsV (undef), IsV (undef), IsV (undef), IsV (.bool false), IsV (.bool false), IsV (undef), IsV (undef), IsV (undef), IsV (undef), IsV (undef), IsV (undef), IsV (undef), IsV (undef), IsV (.bool false), IsV (.bool false)] [] ?_ ?_
  · refine Rc (fa (fa_Rat0 (w.heap.size) 0) (Od.lit 1)) ?_
    refine Rc (ldI S 1 (w.heap.size) 0 (Od.lc 0 3) ld_Int) ?_
    refine Rc (cl1 (en Tryz.func91) (Od.lc (Φ := IsR s1x xs) 1 4) (fun x0 w' hE d0 => ValidR_f d0 HN.out)) ?_
    refine Rc (mv (Od.lc 2 5)) ?_
    refine RcN 3 6 false ?_
    refine RcN 3 6 false ?_
    refine RcN 3 6 false ?_
    refine Rc (pk (Od.loc 3 6) Od.con) ?_
    refine Rc (mv (Od.lc 7 10)) ?_
    refine RcN 8 11 false ?_
    refine RcN 8 11 false ?_
    refine RcN 8 11 false ?_
    refine RcN 8 11 false ?_
    refine Rc (pk (Od.loc 8 11) Od.con) ?_
    refine Rc (mv (Od.lc 13 16)) ?_
    refine RcN 14 17 false ?_
    refine RcN 14 17 false ?_
    refine RcN 14 17 false ?_
    refine RcN 14 17 false ?_
    refine RcN 14 17 false ?_
    refine RcN 14 17 false ?_
    refine RcN 14 17 false ?_
    refine RcN 14 17 false ?_
    refine Rc (pk (Od.loc 14 17) Od.con) ?_
    refine Rc (mv (Od.lc 23 26)) ?_
    exact RgAll.nil
  intro v W1 e1 hΦ _
  replace S := S.mono e1
  have v24 : v 24 = .bool false := hΦ 24 (by decide)
  simp only [layL, Act.put, List.setIfInBounds_toArray, List.set_cons_zero, List.set_cons_succ, Nat.reduceAdd]
  rw [v24]
  clear v24 hΦ e1
  refine wpList_nil ?_
  go_wp2_with fail
  exact bodyPost_ret (v := .bool false) (by simp [results, Tryz.results41, go_sem]) rfl (⟨_, rfl, S.ext, rfl⟩)

set_option maxRecDepth 100000 in
set_option maxHeartbeats 4000000 in
theorem qValid_D {s s' : Bool} {xs ys : List Nat} {x : Value} {w : World} (hx : IsQ (IsR s xs) (IsR s' ys) x w) (hn : validb s xs = true) (hd : validb s' ys = false) : Calls Tryz.prog 41 #[x] w (Ret w (IsV (.bool false))) := by
  have HN := hid hn
  have HD := hid hd
  clear hn hd
  obtain ⟨s1x, a1x, n1x, c1x, s1y, a1y, n1y, c1y, rfl, ⟨_, _, _, e1, h1x⟩, ⟨_, _, _, e2, h1y⟩⟩ := hx
  simp only [Value.agg.injEq, Array.mk.injEq, List.cons.injEq, Value.bool.injEq, Value.slice.injEq, and_true] at e1 e2
  obtain ⟨rfl, rfl, rfl, rfl⟩ := e1
  obtain ⟨rfl, rfl, rfl, rfl⟩ := e2
  obtain ⟨W, hW, S⟩ : ∃ W, W = w.alloc (.cells #[.bool s1x, .slice a1x n1x c1x, .bool s1y, .slice a1y n1y c1y] 31) ∧ Sto w W [((w.heap.size, 1), IsR s1y ys), ((w.heap.size, 0), IsR s1x xs)] := ⟨_, rfl, ((Sto.start w).new2 (w.heap.size) (by simp) s1x s1y a1x a1y n1x c1x n1y c1y 31 (IsR s1x xs) (IsR s1y ys) (IsR.gstb _ _) (⟨_, _, _, rfl, h1x⟩) (IsR.gstb _ _) (⟨_, _, _, rfl, h1y⟩))⟩
  clear h1x h1y
  go_enter Tryz.func41, Tryz.ntmps41
  go_upto_region 1 with (fail)
  rw [← hW]
  clear hW
  refine rgs 25 [some 3, some 4, some 5, some 6, some 7, some 8, some 9, some 10, some 11, some 12, some 13, some 14, some 15, some 16, some 17, some 18, some 19, some 20, some 21, some 22, some 23, some 24, some 25, some 26, some 2] [IsV (.pointer (some ⟨w.heap.size, 0, none⟩)), IsR s1x xs, IsV (.bool true), IsV (.bool true), IsV (.pointer (some ⟨w.heap.size, 2, none⟩)), IsR s1y ys, IsV (.bool false), IsV (.bool false), IsV (.bool false), IsV (undef), IsV (undef), IsV (undef), IsV (undef), IsV (.bool false), IsV (.bool false), IsV (undef), IsV (undef), IsV (undef), IsV (undef), IsV (undef), IsV (undef), IsV (undef), IsV (undef), IsV (.bool false), IsV (.bool false)] [] ?_ ?_
  · refine Rc (fa (fa_Rat0 (w.heap.size) 0) (Od.lit 1)) ?_
    refine Rc (ldI S 1 (w.heap.size) 0 (Od.lc 0 3) ld_Int) ?_
    refine Rc (cl1 (en Tryz.func91) (Od.lc (Φ := IsR s1x xs) 1 4) (fun x0 w' hE d0 => ValidR_f d0 HN.out)) ?_
    refine Rc (mv (Od.lc 2 5)) ?_
    refine RcG 3 6 true (fa (fa_Rat1 (w.heap.size) 0) (Od.lit 1)) ?_
    refine RcG 3 6 true (ldI S 0 (w.heap.size) 1 (Od.lc 4 7) ld_Int) ?_
    refine RcG 3 6 true (cl1 (en Tryz.func91) (Od.lc (Φ := IsR s1y ys) 5 8) (fun x0 w' hE d0 => ValidR_f d0 HD.out)) ?_
    refine Rc (pk (Od.loc 3 6) (Od.lc 6 9)) ?_
    refine Rc (mv (Od.lc 7 10)) ?_
    refine RcN 8 11 false ?_
    refine RcN 8 11 false ?_
    refine RcN 8 11 false ?_
    refine RcN 8 11 false ?_
    refine Rc (pk (Od.loc 8 11) Od.con) ?_
    refine Rc (mv (Od.lc 13 16)) ?_
    refine RcN 14 17 false ?_
    refine RcN 14 17 false ?_
    refine RcN 14 17 false ?_
    refine RcN 14 17 false ?_
    refine RcN 14 17 false ?_
    refine RcN 14 17 false ?_
    refine RcN 14 17 false ?_
    refine RcN 14 17 false ?_
    refine Rc (pk (Od.loc 14 17) Od.con) ?_
    refine Rc (mv (Od.lc 23 26)) ?_
    exact RgAll.nil
  intro v W1 e1 hΦ _
  replace S := S.mono e1
  have v24 : v 24 = .bool false := hΦ 24 (by decide)
  simp only [layL, Act.put, List.setIfInBounds_toArray, List.set_cons_zero, List.set_cons_succ, Nat.reduceAdd]
  rw [v24]
  clear v24 hΦ e1
  refine wpList_nil ?_
  go_wp2_with fail
  exact bodyPost_ret (v := .bool false) (by simp [results, Tryz.results41, go_sem]) rfl (⟨_, rfl, S.ext, rfl⟩)

theorem qValid_any {s s' : Bool} {xs ys : List Nat} {x : Value} {w : World} {b : Bool} (hx : IsQ (IsR s xs) (IsR s' ys) x w) (hl : xs.length ≤ 40 ∧ ys.length ≤ 40) (hb : (validb s xs && validb s' ys && validQ (valZ s xs) (valZ s' ys)) = b) : Calls Tryz.prog 41 #[x] w (Ret w (IsV (.bool b))) := by
  cases hn : validb s xs
  · rw [hn] at hb; exact hb ▸ qValid_N hx hn
  · cases hd : validb s' ys
    · rw [hn, hd] at hb; exact hb ▸ qValid_D hx hn hd
    · rw [hn, hd] at hb
      obtain ⟨s1x, a1x, n1x, c1x, s1y, a1y, n1y, c1y, rfl, h1, h2⟩ := hx
      have hq : IsQ (IsI 40 (valZ s xs)) (IsI 40 (valZ s' ys)) (.agg #[.bool s1x, .slice a1x n1x c1x, .bool s1y, .slice a1y n1y c1y]) w := ⟨_, _, _, _, _, _, _, _, rfl, h1.canon hn 40 hl.1, h2.canon hd 40 hl.2⟩
      have hb' : validQ (valZ s xs) (valZ s' ys) = b := hb
      exact hb' ▸ qValid_f hq (by decide)

set_option maxRecDepth 100000 in
set_option maxHeartbeats 4000000 in
theorem rqValid_N {s s' : Bool} {xs ys : List Nat} {x : Value} {w : World} (hx : IsQ (IsR s xs) (IsR s' ys) x w) (hn : validb s xs = false) : Calls Tryz.prog 40 #[x] w (Ret w (IsV (.bool false))) := by
  have HN := hid hn
  clear hn
  obtain ⟨s1x, a1x, n1x, c1x, s1y, a1y, n1y, c1y, rfl, ⟨_, _, _, e1, h1x⟩, ⟨_, _, _, e2, h1y⟩⟩ := hx
  simp only [Value.agg.injEq, Array.mk.injEq, List.cons.injEq, Value.bool.injEq, Value.slice.injEq, and_true] at e1 e2
  obtain ⟨rfl, rfl, rfl, rfl⟩ := e1
  obtain ⟨rfl, rfl, rfl, rfl⟩ := e2
  obtain ⟨W, hW, S⟩ : ∃ W, W = w.alloc (.cells #[.bool s1x, .slice a1x n1x c1x, .bool s1y, .slice a1y n1y c1y] 31) ∧ Sto w W [((w.heap.size, 1), IsR s1y ys), ((w.heap.size, 0), IsR s1x xs)] := ⟨_, rfl, ((Sto.start w).new2 (w.heap.size) (by simp) s1x s1y a1x a1y n1x c1x n1y c1y 31 (IsR s1x xs) (IsR s1y ys) (IsR.gstb _ _) (⟨_, _, _, rfl, h1x⟩) (IsR.gstb _ _) (⟨_, _, _, rfl, h1y⟩))⟩
  clear h1x h1y
  go_enter Tryz.func40, Tryz.ntmps40
  go_upto_region 1 with (fail)
  rw [← hW]
  clear hW
  refine rgs 24 [some 3, some 4, some 5, some 6, some 7, some 8, some 9, some 10, some 11, some 12, some 13, some 14, some 15, some 16, some 17, some 18, some 19, some 20, some 21, some 22, some 23, some 24, some 25, some 2] [IsV (.pointer (some ⟨w.heap.size, 0, none⟩)), IsR s1x xs, IsV (.bool false), IsV (.bool false), IsV (undef), IsV (undef), IsV (undef), IsV (.bool false), IsV (.bool false), IsV (undef), IsV (undef), IsV (undef), IsV (undef), IsV (.bool false), IsV (.bool false), IsV (undef), IsV (undef), IsV (undef), IsV (undef), IsV (undef), IsV (undef), IsV (undef), IsV (.bool false), IsV (.bool false)] [] ?_ ?_
  · refine Rc (fa (fa_Rat0 (w.heap.size) 0) (Od.lit 1)) ?_
    refine Rc (ldI S 1 (w.heap.size) 0 (Od.lc 0 3) ld_Int) ?_
    refine Rc (cl1 (en Tryz.func89) (Od.lc (Φ := IsR s1x xs) 1 4) (fun x0 w' hE d0 => RValidR_f d0 HN.out)) ?_
    refine Rc (mv (Od.lc 2 5)) ?_
    refine RcN 3 6 false ?_
    refine RcN 3 6 false ?_
    refine RcN 3 6 false ?_
    refine Rc (pk (Od.loc 3 6) Od.con) ?_
    refine Rc (mv (Od.lc 7 10)) ?_
    refine RcN 8 11 false ?_
    refine RcN 8 11 false ?_
    refine RcN 8 11 false ?_
    refine RcN 8 11 false ?_
    refine Rc (pk (Od.loc 8 11) Od.con) ?_
    refine Rc (mv (Od.lc 13 16)) ?_
    refine RcN 14 17 false ?_
    refine RcN 14 17 false ?_
    refine RcN 14 17 false ?_
    refine RcN 14 17 false ?_
    refine RcN 14 17 false ?_
    refine RcN 14 17 false ?_
    refine RcN 14 17 false ?_
    refine Rc (pk (Od.loc 14 17) Od.con) ?_
    refine Rc (mv (Od.lc 22 25)) ?_
    exact RgAll.nil
  intro v W1 e1 hΦ _
  replace S := S.mono e1
  have v23 : v 23 = .bool false := hΦ 23 (by decide)
  simp only [layL, Act.put, List.setIfInBounds_toArray, List.set_cons_zero, List.set_cons_succ, Nat.reduceAdd]
  rw [v23]
  clear v23 hΦ e1
  refine wpList_nil ?_
  go_wp2_with fail
  exact bodyPost_ret (v := .bool false) (by simp [results, Tryz.results40, go_sem]) rfl (⟨_, rfl, S.ext, rfl⟩)

set_option maxRecDepth 100000 in
set_option maxHeartbeats 4000000 in
theorem rqValid_D {s s' : Bool} {xs ys : List Nat} {x : Value} {w : World} (hx : IsQ (IsR s xs) (IsR s' ys) x w) (hn : validb s xs = true) (hd : validb s' ys = false) : Calls Tryz.prog 40 #[x] w (Ret w (IsV (.bool false))) := by
  have HN := hid hn
  have HD := hid hd
  clear hn hd
  obtain ⟨s1x, a1x, n1x, c1x, s1y, a1y, n1y, c1y, rfl, ⟨_, _, _, e1, h1x⟩, ⟨_, _, _, e2, h1y⟩⟩ := hx
  simp only [Value.agg.injEq, Array.mk.injEq, List.cons.injEq, Value.bool.injEq, Value.slice.injEq, and_true] at e1 e2
  obtain ⟨rfl, rfl, rfl, rfl⟩ := e1
  obtain ⟨rfl, rfl, rfl, rfl⟩ := e2
  obtain ⟨W, hW, S⟩ : ∃ W, W = w.alloc (.cells #[.bool s1x, .slice a1x n1x c1x, .bool s1y, .slice a1y n1y c1y] 31) ∧ Sto w W [((w.heap.size, 1), IsR s1y ys), ((w.heap.size, 0), IsR s1x xs)] := ⟨_, rfl, ((Sto.start w).new2 (w.heap.size) (by simp) s1x s1y a1x a1y n1x c1x n1y c1y 31 (IsR s1x xs) (IsR s1y ys) (IsR.gstb _ _) (⟨_, _, _, rfl, h1x⟩) (IsR.gstb _ _) (⟨_, _, _, rfl, h1y⟩))⟩
  clear h1x h1y
  go_enter Tryz.func40, Tryz.ntmps40
  go_upto_region 1 with (fail)
  rw [← hW]
  clear hW
  refine rgs 24 [some 3, some 4, some 5, some 6, some 7, some 8, some 9, some 10, some 11, some 12, some 13, some 14, some 15, some 16, some 17, some 18, some 19, some 20, some 21, some 22, some 23, some 24, some 25, some 2] [IsV (.pointer (some ⟨w.heap.size, 0, none⟩)), IsR s1x xs, IsV (.bool true), IsV (.bool true), IsV (.pointer (some ⟨w.heap.size, 2, none⟩)), IsR s1y ys, IsV (.bool false), IsV (.bool false), IsV (.bool false), IsV (undef), IsV (undef), IsV (undef), IsV (undef), IsV (.bool false), IsV (.bool false), IsV (undef), IsV (undef), IsV (undef), IsV (undef), IsV (undef), IsV (undef), IsV (undef), IsV (.bool false), IsV (.bool false)] [] ?_ ?_
  · refine Rc (fa (fa_Rat0 (w.heap.size) 0) (Od.lit 1)) ?_
    refine Rc (ldI S 1 (w.heap.size) 0 (Od.lc 0 3) ld_Int) ?_
    refine Rc (cl1 (en Tryz.func89) (Od.lc (Φ := IsR s1x xs) 1 4) (fun x0 w' hE d0 => RValidR_f d0 HN.out)) ?_
    refine Rc (mv (Od.lc 2 5)) ?_
    refine RcG 3 6 true (fa (fa_Rat1 (w.heap.size) 0) (Od.lit 1)) ?_
    refine RcG 3 6 true (ldI S 0 (w.heap.size) 1 (Od.lc 4 7) ld_Int) ?_
    refine RcG 3 6 true (cl1 (en Tryz.func89) (Od.lc (Φ := IsR s1y ys) 5 8) (fun x0 w' hE d0 => RValidR_f d0 HD.out)) ?_
    refine Rc (pk (Od.loc 3 6) (Od.lc 6 9)) ?_
    refine Rc (mv (Od.lc 7 10)) ?_
    refine RcN 8 11 false ?_
    refine RcN 8 11 false ?_
    refine RcN 8 11 false ?_
    refine RcN 8 11 false ?_
    refine Rc (pk (Od.loc 8 11) Od.con) ?_
    refine Rc (mv (Od.lc 13 16)) ?_
    refine RcN 14 17 false ?_
    refine RcN 14 17 false ?_
    refine RcN 14 17 false ?_
    refine RcN 14 17 false ?_
    refine RcN 14 17 false ?_
    refine RcN 14 17 false ?_
    refine RcN 14 17 false ?_
    refine Rc (pk (Od.loc 14 17) Od.con) ?_
    refine Rc (mv (Od.lc 22 25)) ?_
    exact RgAll.nil
  intro v W1 e1 hΦ _
  replace S := S.mono e1
  have v23 : v 23 = .bool false := hΦ 23 (by decide)
  simp only [layL, Act.put, List.setIfInBounds_toArray, List.set_cons_zero, List.set_cons_succ, Nat.reduceAdd]
  rw [v23]
  clear v23 hΦ e1
  refine wpList_nil ?_
  go_wp2_with fail
  exact bodyPost_ret (v := .bool false) (by simp [results, Tryz.results40, go_sem]) rfl (⟨_, rfl, S.ext, rfl⟩)

theorem rqValid_any {s s' : Bool} {xs ys : List Nat} {x : Value} {w : World} {b : Bool} (hx : IsQ (IsR s xs) (IsR s' ys) x w) (hl : xs.length ≤ 40 ∧ ys.length ≤ 40) (hb : (validb s xs && validb s' ys && validQ (valZ s xs) (valZ s' ys)) = b) : Calls Tryz.prog 40 #[x] w (Ret w (IsV (.bool b))) := by
  cases hn : validb s xs
  · rw [hn] at hb; exact hb ▸ rqValid_N hx hn
  · cases hd : validb s' ys
    · rw [hn, hd] at hb; exact hb ▸ rqValid_D hx hn hd
    · rw [hn, hd] at hb
      obtain ⟨s1x, a1x, n1x, c1x, s1y, a1y, n1y, c1y, rfl, h1, h2⟩ := hx
      have hq : IsQ (IsI 40 (valZ s xs)) (IsI 40 (valZ s' ys)) (.agg #[.bool s1x, .slice a1x n1x c1x, .bool s1y, .slice a1y n1y c1y]) w := ⟨_, _, _, _, _, _, _, _, rfl, h1.canon hn 40 hl.1, h2.canon hd 40 hl.2⟩
      have hb' : validQ (valZ s xs) (valZ s' ys) = b := hb
      exact hb' ▸ rqValid_f hq (by decide)
end Go.Proofs.YtcgdkfadcglekaaGreatDoor
