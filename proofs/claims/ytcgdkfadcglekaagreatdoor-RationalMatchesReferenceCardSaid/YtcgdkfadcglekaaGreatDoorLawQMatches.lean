/-
  The statement RationalMatchesReference: for every 2 descriptions of fractions the law answers true, and the descriptions read behind the call as they read before. The listed package variables hold what the program's text lays (the card ties them).
-/
import Derived.Test.YtcgdkfadcglekaaGreatDoorQe
import Derived.Test.YtcgdkfadcglekaaGreatDoorReadQ
import Derived.Test.YtcgdkfadcglekaaGreatDoorTie
import Derived.Test.YtcgdkfadcglekaaGreatDoorCards
import Derived.SevenTiedAt
namespace Go.Proofs.YtcgdkfadcglekaaGreatDoor
open Go Go.RowKit

set_option maxRecDepth 100000 in
set_option maxHeartbeats 8000000 in
theorem QMatches_0 (w : World) (s1x s1y s2x s2y : Bool) (a1x a1y a2x a2y : Option Addr) (n1x n1y c1x c1y n2x n2y c2x c2y : Nat) (x1n x1d x2n x2d : List Nat) (h1x : Wd w a1x n1x c1x x1n) (h1y : Wd w a1y n1y c1y x1d) (h2x : Wd w a2x n2x c2x x2n) (h2y : Wd w a2y n2y c2y x2d) (ht : Tab w) (qa qb : Rat) (ha : madeQ s1x s1y x1n x1d 6 = qa) (hb : madeQ s2x s2y x2n x2d 6 = qb) (hz : qb = 0) :
    Calls Tryz.prog 8 #[.agg #[.bool s1x, .slice a1x n1x c1x, .bool s1y, .slice a1y n1y c1y], .agg #[.bool s2x, .slice a2x n2x c2x, .bool s2y, .slice a2y n2y c2y]] w (Ret w (IsV (.bool true))) := by
  have Ha := hid ha
  have Hb := hid hb
  have HZ := hid hz
  obtain ⟨sg, hsg⟩ : ∃ s, qa.num.sign = s := ⟨_, rfl⟩
  have HS := hid hsg
  obtain ⟨cc, hcc⟩ : ∃ c, cmpQ qa qb = c := ⟨_, rfl⟩
  have HC := hid hcc
  have HN := hid (show qb.num = 0 from Rat.num_eq_zero.2 hz)
  clear ha hb hz hsg hcc
  obtain ⟨W, hW, S⟩ : ∃ W, W = (w.alloc (.cells #[.bool s1x, .slice a1x n1x c1x, .bool s1y, .slice a1y n1y c1y] 26)).alloc (.cells #[.bool s2x, .slice a2x n2x c2x, .bool s2y, .slice a2y n2y c2y] 26) ∧ Sto w W [((w.heap.size + 1, 1), IsR s2y x2d), ((w.heap.size + 1, 0), IsR s2x x2n), ((w.heap.size, 1), IsR s1y x1d), ((w.heap.size, 0), IsR s1x x1n)] := ⟨_, rfl, (((Sto.start w).new2 (w.heap.size) (by simp) s1x s1y a1x a1y n1x c1x n1y c1y 26 (IsR s1x x1n) (IsR s1y x1d) (IsR.gstb _ _) (⟨_, _, _, rfl, h1x⟩) (IsR.gstb _ _) (⟨_, _, _, rfl, h1y⟩)).new2 (w.heap.size + 1) (by simp) s2x s2y a2x a2y n2x c2x n2y c2y 26 (IsR s2x x2n) (IsR s2y x2d) (IsR.gstb _ _) (⟨_, _, _, rfl, (h2x.ext ((Ext.refl _).alloc _))⟩) (IsR.gstb _ _) (⟨_, _, _, rfl, (h2y.ext ((Ext.refl _).alloc _))⟩))⟩
  clear h1x h1y h2x h2y
  go_enter Tryz.func8, Tryz.ntmps8
  go_upto_region 1 with (fail)
  rw [← hW]
  clear hW
  refine rgs 2 [some 16, some 5] [IsV (.bool true), IsV (.bool true)] [] ?_ ?_
  · refine Rc (cl0 (en Tryz.func12)  (fun w' hE => examplesQ_f _ (ht.ext (S.ext.trans hE)))) ?_
    refine Rc (mv (Od.lc 0 16)) ?_
    exact RgAll.nil
  intro v W1 e1 hΦ _
  replace S := S.mono e1
  have v1 : v 1 = .bool true := hΦ 1 (by decide)
  simp only [layL, Act.put, List.setIfInBounds_toArray, List.set_cons_zero, List.set_cons_succ, Nat.reduceAdd]
  rw [v1]
  clear v1 hΦ e1
  refine wpList_nil ?_
  go_upto_region 2 with (fail)
  refine rgs 2 [some 17, some 18] [IsV (.bool true), IsV (.bool false)] [] ?_ ?_
  · refine Rc (mv (Od.lit 5)) ?_
    refine Rc (nt (Od.loc 0 17)) ?_
    exact RgAll.nil
  intro v W2 e1 hΦ _
  replace S := S.mono e1
  have v1 : v 1 = .bool false := hΦ 1 (by decide)
  simp only [layL, Act.put, List.setIfInBounds_toArray, List.set_cons_zero, List.set_cons_succ, Nat.reduceAdd]
  rw [v1]
  clear v1 hΦ e1
  refine wpList_nil ?_
  go_upto_region 4 with (fail)
  have hl := hid S.lt; have hw := S.ext.size
  refine rgn 8 [some 19, some 20, some 21, some 22, some 6, some 7, none, none] [IsQ (IsR s1x x1n) (IsR s1y x1d), IsQ (IsI 8 qa.num) (IsI 8 ((qa.den : Int))), IsQ (IsR s2x x2n) (IsR s2y x2d), IsQ (IsI 8 qb.num) (IsI 8 ((qb.den : Int))), IsNw W2 2, IsNw W2 2, TT, TT] [4, 5] [none, none, none, none, none, none, some (4, [IsI 8 qa.num, IsI 8 ((qa.den : Int))]), some (5, [IsI 8 qb.num, IsI 8 ((qb.den : Int))])] [none, none, none, none, none, none, some 4, some 5] 0 ?_ ?_
  · refine RcK (ldQ S 3 2 (w.heap.size) 0 (Od.lit 2) ld_RawQ rfl rfl) ?_
    refine RcK (cl2 (en Tryz.func13) (Od.lc (Φ := IsQ (IsR s1x x1n) (IsR s1y x1d)) 0 19) Od.con (fun x0 x1 w' hE d0 d1 => by { obtain rfl : x1 = .int .i64 6 := d1; exact Calls.mono (rqMade_f d0 6 (by decide)) fun _ _ h => h.ratz Ha.out (Nat.le_refl _) })) ?_
    refine RcK (ldQ S 1 0 (w.heap.size + 1) 0 (Od.lit 3) ld_RawQ rfl rfl) ?_
    refine RcK (cl2 (en Tryz.func13) (Od.lc (Φ := IsQ (IsR s2x x2n) (IsR s2y x2d)) 2 21) Od.con (fun x0 x1 w' hE d0 d1 => by { obtain rfl : x1 = .int .i64 6 := d1; exact Calls.mono (rqMade_f d0 6 (by decide)) fun _ _ h => h.ratz Hb.out (Nat.le_refl _) })) ?_
    refine RcK (alN al_Rat) ?_
    refine RcK (alN al_Rat) ?_
    refine RcS 4 (sQ st_Rat (Od.lc (Φ := IsQ (IsI 8 qa.num) (IsI 8 ((qa.den : Int)))) 1 20) (IsI.gstb _ _) (IsI.gstb _ _)) ?_
    refine RcS 5 (sQ st_Rat (Od.lc (Φ := IsQ (IsI 8 qb.num) (IsI 8 ((qb.den : Int)))) 3 22) (IsI.gstb _ _) (IsI.gstb _ _)) ?_
    exact RgAllN.nil
  intro v W3 e1 hΦ hS hne
  replace S := S.mono e1
  obtain ⟨g6, v4, q1, S2⟩ := S.addQ (hΦ 4 (by decide) rfl) (hS 6 (by decide) _ _ rfl) hw (IsI.gstb _ _) (IsI.gstb _ _)
  replace S := S2 (ApartO.old hl.out q1); clear S2
  obtain ⟨g7, v5, q2, S2⟩ := S.addQ (hΦ 5 (by decide) rfl) (hS 7 (by decide) _ _ rfl) hw (IsI.gstb _ _) (IsI.gstb _ _)
  replace S := S2 (ApartO.cons (fun h => hne 4 5 (by decide) (by decide) (by decide) (by decide) (by decide) rfl rfl (by rw [v4, v5, h])) (ApartO.cons (fun h => hne 4 5 (by decide) (by decide) (by decide) (by decide) (by decide) rfl rfl (by rw [v4, v5, h])) (ApartO.old hl.out q2))); clear S2
  simp only [layL, Act.put, List.setIfInBounds_toArray, List.set_cons_zero, List.set_cons_succ, Nat.reduceAdd]
  rw [v4, v5]
  clear hl hw hne v4 v5 hΦ hS e1
  refine wpAny_done (by kernel_rfl) ?_ _
  go_upto_region 5 with (fail)
  have hl := hid S.lt; have hw := S.ext.size
  refine rgs 7 [some 24, some 25, some 26, some 23, some 27, some 28, some 8] [IsQ (IsI 8 qa.num) (IsI 8 ((qa.den : Int))), IsQ (IsI 8 qb.num) (IsI 8 ((qb.den : Int))), IsT2 (IsQ (IsI 0 0) (IsI 0 0)) (IsV (.int .i64 4)), IsT2 (IsQ (IsI 0 0) (IsI 0 0)) (IsV (.int .i64 4)), IsQ (IsI 0 0) (IsI 0 0), IsV (.int .i64 4), IsBo W3 2] [6] ?_ ?_
  · refine Rc (ldQ S 3 2 (g6) 0 (Od.lit 6) ld_Rat rfl rfl) ?_
    refine Rc (ldQ S 1 0 (g7) 0 (Od.lit 7) ld_Rat rfl rfl) ?_
    refine Rc (cl2 (en Tryz.func50) (Od.lc (Φ := IsQ (IsI 8 qa.num) (IsI 8 ((qa.den : Int)))) 0 24) (Od.lc (Φ := IsQ (IsI 8 qb.num) (IsI 8 ((qb.den : Int)))) 1 25) (fun x0 x1 w' hE d0 d1 => qDiv0_f d0 d1 (by decide) (by decide) HZ.out)) ?_
    refine Rc (mv (Od.lc 2 26)) ?_
    refine Rc (ex (Od.loc 3 23) t20) ?_
    refine Rc (ex (Od.loc 3 23) t21) ?_
    refine Rc (al al_Rat) ?_
    exact RgAll.nil
  intro v W4 e1 hΦ _
  replace S := S.mono e1
  have h27 := hΦ 4 (by decide)
  have v5 : v 5 = .int .i64 4 := hΦ 5 (by decide)
  obtain ⟨g8, v6, q4, b3, _⟩ := (hΦ 6 (by decide) : IsBo W3 2 (v 6) W4)
  replace S := S.addN 2 (ApartO.old hl.out q4) (Nat.le_trans hw q4) b3
  simp only [newF, List.cons_append, List.nil_append] at S
  simp only [layL, Act.put, List.setIfInBounds_toArray, List.set_cons_zero, List.set_cons_succ, Nat.reduceAdd]
  rw [v5, v6]
  clear b3 hl hw v5 v6 hΦ e1
  try simp only [List.drop_succ_cons, List.drop_zero]
  (with_reducible refine stL ?_ (by rfl)); intro KK hKK; refine stQ S 1 0 (g8) 0 h27 (IsI.gstb _ _) (IsI.gstb _ _) st_Rat (fun W5 S2 G2 => hKK _ _ ?_) rfl rfl
  replace S := S2; clear S2 G2 hKK KK h27
  simp only [List.set_cons_zero, List.set_cons_succ] at S
  refine wpList_step fun K hK => ?_; go_simp; refine hK _ _ ?_; clear hK K
  refine wpList_nil ?_
  go_upto_region 6 with (fail)
  have hl := hid S.lt; have hw := S.ext.size
  refine rgs 7 [some 30, some 31, some 32, some 29, some 33, some 34, some 10] [IsQ (IsI 8 qa.num) (IsI 8 ((qa.den : Int))), IsQ (IsI 8 qb.num) (IsI 8 ((qb.den : Int))), IsT2 (IsQ (IsI 0 0) (IsI 0 0)) (IsV (.int .i64 4)), IsT2 (IsQ (IsI 0 0) (IsI 0 0)) (IsV (.int .i64 4)), IsQ (IsI 0 0) (IsI 0 0), IsV (.int .i64 4), IsBo W5 2] [6] ?_ ?_
  · refine Rc (ldQ S 5 4 (g6) 0 (Od.lit 6) ld_Rat rfl rfl) ?_
    refine Rc (ldQ S 3 2 (g7) 0 (Od.lit 7) ld_Rat rfl rfl) ?_
    refine Rc (cl2 (en Tryz.func51) (Od.lc (Φ := IsQ (IsI 8 qa.num) (IsI 8 ((qa.den : Int)))) 0 30) (Od.lc (Φ := IsQ (IsI 8 qb.num) (IsI 8 ((qb.den : Int)))) 1 31) (fun x0 x1 w' hE d0 d1 => rqDiv0_f d0 d1 (by decide) (by decide) HZ.out)) ?_
    refine Rc (mv (Od.lc 2 32)) ?_
    refine Rc (ex (Od.loc 3 29) t20) ?_
    refine Rc (ex (Od.loc 3 29) t21) ?_
    refine Rc (al al_Rat) ?_
    exact RgAll.nil
  intro v W6 e1 hΦ _
  replace S := S.mono e1
  have h33 := hΦ 4 (by decide)
  have v5 : v 5 = .int .i64 4 := hΦ 5 (by decide)
  obtain ⟨g10, v6, q6, b5, _⟩ := (hΦ 6 (by decide) : IsBo W5 2 (v 6) W6)
  replace S := S.addN 2 (ApartO.old hl.out q6) (Nat.le_trans hw q6) b5
  simp only [newF, List.cons_append, List.nil_append] at S
  simp only [layL, Act.put, List.setIfInBounds_toArray, List.set_cons_zero, List.set_cons_succ, Nat.reduceAdd]
  rw [v5, v6]
  clear b5 hl hw v5 v6 hΦ e1
  try simp only [List.drop_succ_cons, List.drop_zero]
  (with_reducible refine stL ?_ (by rfl)); intro KK hKK; refine stQ S 1 0 (g10) 0 h33 (IsI.gstb _ _) (IsI.gstb _ _) st_Rat (fun W7 S2 G2 => hKK _ _ ?_) rfl rfl
  replace S := S2; clear S2 G2 hKK KK h33
  simp only [List.set_cons_zero, List.set_cons_succ] at S
  refine wpList_step fun K hK => ?_; go_simp; refine hK _ _ ?_; clear hK K
  refine wpList_nil ?_
  go_upto_region 7 with (fail)
  have hl := hid S.lt; have hw := S.ext.size
  refine rgs 9 [some 36, some 37, some 38, some 39, some 40, some 35, some 41, some 42, some 12] [IsV (.pointer (some ⟨g6, 0, none⟩)), IsI 8 qa.num, IsV (.pointer (some ⟨g7, 0, none⟩)), IsI 8 qb.num, IsT2 (IsQ (IsI 0 0) (IsI 0 0)) (IsV (.int .i64 4)), IsT2 (IsQ (IsI 0 0) (IsI 0 0)) (IsV (.int .i64 4)), IsQ (IsI 0 0) (IsI 0 0), IsV (.int .i64 4), IsBo W7 2] [8] ?_ ?_
  · refine Rc (fa (fa_Rat0 (g6) 0) (Od.lit 6)) ?_
    refine Rc (ldI S 7 (g6) 0 (Od.lc 0 36) ld_Int) ?_
    refine Rc (fa (fa_Rat0 (g7) 0) (Od.lit 7)) ?_
    refine Rc (ldI S 5 (g7) 0 (Od.lc 2 38) ld_Int) ?_
    refine Rc (cl2 (en Tryz.func30) (Od.lc (Φ := IsI 8 qa.num) 1 37) (Od.lc (Φ := IsI 8 qb.num) 3 39) (fun x0 x1 w' hE d0 d1 => qNew0_f d0 d1 HN.out)) ?_
    refine Rc (mv (Od.lc 4 40)) ?_
    refine Rc (ex (Od.loc 5 35) t20) ?_
    refine Rc (ex (Od.loc 5 35) t21) ?_
    refine Rc (al al_Rat) ?_
    exact RgAll.nil
  intro v W8 e1 hΦ _
  replace S := S.mono e1
  have h41 := hΦ 6 (by decide)
  have v7 : v 7 = .int .i64 4 := hΦ 7 (by decide)
  obtain ⟨g12, v8, q8, b7, _⟩ := (hΦ 8 (by decide) : IsBo W7 2 (v 8) W8)
  replace S := S.addN 2 (ApartO.old hl.out q8) (Nat.le_trans hw q8) b7
  simp only [newF, List.cons_append, List.nil_append] at S
  simp only [layL, Act.put, List.setIfInBounds_toArray, List.set_cons_zero, List.set_cons_succ, Nat.reduceAdd]
  rw [v7, v8]
  clear b7 hl hw v7 v8 hΦ e1
  try simp only [List.drop_succ_cons, List.drop_zero]
  (with_reducible refine stL ?_ (by rfl)); intro KK hKK; refine stQ S 1 0 (g12) 0 h41 (IsI.gstb _ _) (IsI.gstb _ _) st_Rat (fun W9 S2 G2 => hKK _ _ ?_) rfl rfl
  replace S := S2; clear S2 G2 hKK KK h41
  simp only [List.set_cons_zero, List.set_cons_succ] at S
  refine wpList_step fun K hK => ?_; go_simp; refine hK _ _ ?_; clear hK K
  refine wpList_nil ?_
  go_upto_region 8 with (fail)
  have hl := hid S.lt; have hw := S.ext.size
  refine rgs 9 [some 44, some 45, some 46, some 47, some 48, some 43, some 49, some 50, some 14] [IsV (.pointer (some ⟨g6, 0, none⟩)), IsI 8 qa.num, IsV (.pointer (some ⟨g7, 0, none⟩)), IsI 8 qb.num, IsT2 (IsQ (IsI 0 0) (IsI 0 0)) (IsV (.int .i64 4)), IsT2 (IsQ (IsI 0 0) (IsI 0 0)) (IsV (.int .i64 4)), IsQ (IsI 0 0) (IsI 0 0), IsV (.int .i64 4), IsBo W9 2] [8] ?_ ?_
  · refine Rc (fa (fa_Rat0 (g6) 0) (Od.lit 6)) ?_
    refine Rc (ldI S 9 (g6) 0 (Od.lc 0 44) ld_Int) ?_
    refine Rc (fa (fa_Rat0 (g7) 0) (Od.lit 7)) ?_
    refine Rc (ldI S 7 (g7) 0 (Od.lc 2 46) ld_Int) ?_
    refine Rc (cl2 (en Tryz.func52) (Od.lc (Φ := IsI 8 qa.num) 1 45) (Od.lc (Φ := IsI 8 qb.num) 3 47) (fun x0 x1 w' hE d0 d1 => rqNew0_f d0 d1 HN.out)) ?_
    refine Rc (mv (Od.lc 4 48)) ?_
    refine Rc (ex (Od.loc 5 43) t20) ?_
    refine Rc (ex (Od.loc 5 43) t21) ?_
    refine Rc (al al_Rat) ?_
    exact RgAll.nil
  intro v W10 e1 hΦ _
  replace S := S.mono e1
  have h49 := hΦ 6 (by decide)
  have v7 : v 7 = .int .i64 4 := hΦ 7 (by decide)
  obtain ⟨g14, v8, q10, b9, _⟩ := (hΦ 8 (by decide) : IsBo W9 2 (v 8) W10)
  replace S := S.addN 2 (ApartO.old hl.out q10) (Nat.le_trans hw q10) b9
  simp only [newF, List.cons_append, List.nil_append] at S
  simp only [layL, Act.put, List.setIfInBounds_toArray, List.set_cons_zero, List.set_cons_succ, Nat.reduceAdd]
  rw [v7, v8]
  clear b9 hl hw v7 v8 hΦ e1
  try simp only [List.drop_succ_cons, List.drop_zero]
  (with_reducible refine stL ?_ (by rfl)); intro KK hKK; refine stQ S 1 0 (g14) 0 h49 (IsI.gstb _ _) (IsI.gstb _ _) st_Rat (fun W11 S2 G2 => hKK _ _ ?_) rfl rfl
  replace S := S2; clear S2 G2 hKK KK h49
  simp only [List.set_cons_zero, List.set_cons_succ] at S
  refine wpList_step fun K hK => ?_; go_simp; refine hK _ _ ?_; clear hK K
  refine wpList_nil ?_
  go_upto_region 9 with (fail)
  refine rgs 20 [some 51, some 52, some 53, some 54, some 55, some 56, some 57, some 58, some 59, some 60, some 61, some 62, some 63, some 64, some 65, some 66, some 67, some 68, some 69, some 70] [IsV (.int .i64 4), IsV (.int .i64 4), IsV (.bool false), IsV (.bool false), IsV (.int .i64 4), IsV (.int .i64 4), IsV (.bool false), IsV (.bool false), IsV (.bool false), IsQ (IsI 0 0) (IsI 0 0), IsQ (IsI 0 0) (IsI 0 0), IsV (.bool true), IsV (.bool false), IsV (.bool false), IsV (.bool false), IsQ (IsI 0 0) (IsI 0 0), IsQ (IsI 0 0) (IsI 0 0), IsV (.bool true), IsV (.bool false), IsV (.bool false)] [] ?_ ?_
  · refine Rc (mv (Od.lit 9)) ?_
    refine Rc (mv (Od.lit 11)) ?_
    refine Rc (bn (r := .bool false) (Od.loc 0 51) (Od.loc 1 52) (hr := fun w => by go_simp)) ?_
    refine Rc (mv (Od.lc 2 53)) ?_
    refine RcG 3 54 false (mv (Od.lit 13)) ?_
    refine RcG 3 54 false (mv (Od.lit 15)) ?_
    refine RcG 3 54 false (bn (r := .bool false) (Od.loc 4 55) (Od.loc 5 56) (hr := fun w => by go_simp)) ?_
    refine Rc (pk (Od.loc 3 54) (Od.lc 6 57)) ?_
    refine Rc (mv (Od.lc 7 58)) ?_
    refine RcG 8 59 false (ldQ S 7 6 (g8) 0 (Od.lit 8) ld_Rat rfl rfl) ?_
    refine RcG 8 59 false (ldQ S 5 4 (g10) 0 (Od.lit 10) ld_Rat rfl rfl) ?_
    refine RcG 8 59 false (cl2 (en Tryz.func18) (Od.lc (Φ := IsQ (IsI 0 0) (IsI 0 0)) 9 60) (Od.lc (Φ := IsQ (IsI 0 0) (IsI 0 0)) 10 61) (fun x0 x1 w' hE d0 d1 => rqSame_t d0 d1 (by decide) rfl rfl)) ?_
    refine RcG 8 59 false (nt (Od.loc 11 62)) ?_
    refine Rc (pk (Od.loc 8 59) (Od.lc 12 63)) ?_
    refine Rc (mv (Od.lc 13 64)) ?_
    refine RcG 14 65 false (ldQ S 3 2 (g12) 0 (Od.lit 12) ld_Rat rfl rfl) ?_
    refine RcG 14 65 false (ldQ S 1 0 (g14) 0 (Od.lit 14) ld_Rat rfl rfl) ?_
    refine RcG 14 65 false (cl2 (en Tryz.func18) (Od.lc (Φ := IsQ (IsI 0 0) (IsI 0 0)) 15 66) (Od.lc (Φ := IsQ (IsI 0 0) (IsI 0 0)) 16 67) (fun x0 x1 w' hE d0 d1 => rqSame_t d0 d1 (by decide) rfl rfl)) ?_
    refine RcG 14 65 false (nt (Od.loc 17 68)) ?_
    refine Rc (pk (Od.loc 14 65) (Od.lc 18 69)) ?_
    exact RgAll.nil
  intro v W12 e1 hΦ _
  replace S := S.mono e1
  have v19 : v 19 = .bool false := hΦ 19 (by decide)
  simp only [layL, Act.put, List.setIfInBounds_toArray, List.set_cons_zero, List.set_cons_succ, Nat.reduceAdd]
  rw [v19]
  clear v19 hΦ e1
  refine wpList_nil ?_
  go_upto_region 11 with (fail)
  refine rg 28 [some 71, some 72, some 73, some 74, some 75, some 76, some 77, some 78, some 79, some 80, some 81, some 82, some 83, some 84, some 85, some 86, some 87, some 88, some 89, some 90, some 91, some 92, some 93, some 94, some 95, some 96, some 97, some 98] [IsQ (IsI 8 qa.num) (IsI 8 ((qa.den : Int))), IsQ (IsI 8 qb.num) (IsI 8 ((qb.den : Int))), IsQ (IsI 17 ((qa + qb).num)) (IsI 17 (((qa + qb).den : Int))), IsQ (IsI 8 qa.num) (IsI 8 ((qa.den : Int))), IsQ (IsI 8 qb.num) (IsI 8 ((qb.den : Int))), IsQ (IsI 17 ((qa + qb).num)) (IsI 17 (((qa + qb).den : Int))), IsV (.bool true), IsV (.bool false), IsV (.bool false), IsQ (IsI 8 qa.num) (IsI 8 ((qa.den : Int))), IsQ (IsI 8 qb.num) (IsI 8 ((qb.den : Int))), IsQ (IsI 17 ((qa - qb).num)) (IsI 17 (((qa - qb).den : Int))), IsQ (IsI 8 qa.num) (IsI 8 ((qa.den : Int))), IsQ (IsI 8 qb.num) (IsI 8 ((qb.den : Int))), IsQ (IsI 17 ((qa - qb).num)) (IsI 17 (((qa - qb).den : Int))), IsV (.bool true), IsV (.bool false), IsV (.bool false), IsV (.bool false), IsQ (IsI 8 qa.num) (IsI 8 ((qa.den : Int))), IsQ (IsI 8 qb.num) (IsI 8 ((qb.den : Int))), IsQ (IsI 16 ((qa * qb).num)) (IsI 16 (((qa * qb).den : Int))), IsQ (IsI 8 qa.num) (IsI 8 ((qa.den : Int))), IsQ (IsI 8 qb.num) (IsI 8 ((qb.den : Int))), IsQ (IsI 16 ((qa * qb).num)) (IsI 16 (((qa * qb).den : Int))), IsV (.bool true), IsV (.bool false), IsV (.bool false)] [] 0 ?_ ?_
  · refine Rc (ldQ S 11 10 (g6) 0 (Od.lit 6) ld_Rat rfl rfl) ?_
    refine Rc (ldQ S 9 8 (g7) 0 (Od.lit 7) ld_Rat rfl rfl) ?_
    refine Rc (cl2 (en Tryz.func37) (Od.lc (Φ := IsQ (IsI 8 qa.num) (IsI 8 ((qa.den : Int)))) 0 71) (Od.lc (Φ := IsQ (IsI 8 qb.num) (IsI 8 ((qb.den : Int)))) 1 72) (fun x0 x1 w' hE d0 d1 => qAdd_f d0 d1 (by decide) (by decide))) ?_
    refine Rc (ldQ S 11 10 (g6) 0 (Od.lit 6) ld_Rat rfl rfl) ?_
    refine Rc (ldQ S 9 8 (g7) 0 (Od.lit 7) ld_Rat rfl rfl) ?_
    refine Rc (cl2 (en Tryz.func53) (Od.lc (Φ := IsQ (IsI 8 qa.num) (IsI 8 ((qa.den : Int)))) 3 74) (Od.lc (Φ := IsQ (IsI 8 qb.num) (IsI 8 ((qb.den : Int)))) 4 75) (fun x0 x1 w' hE d0 d1 => rqAdd_f d0 d1 (by decide) (by decide))) ?_
    refine Rc (cl2 (en Tryz.func18) (Od.lc (Φ := IsQ (IsI 17 ((qa + qb).num)) (IsI 17 (((qa + qb).den : Int)))) 2 73) (Od.lc (Φ := IsQ (IsI 17 ((qa + qb).num)) (IsI 17 (((qa + qb).den : Int)))) 5 76) (fun x0 x1 w' hE d0 d1 => rqSame_eq d0 d1 (by decide) (rfl))) ?_
    refine Rc (nt (Od.loc 6 77)) ?_
    refine Rc (mv (Od.lc 7 78)) ?_
    refine RcG 8 79 false (ldQ S 11 10 (g6) 0 (Od.lit 6) ld_Rat rfl rfl) ?_
    refine RcG 8 79 false (ldQ S 9 8 (g7) 0 (Od.lit 7) ld_Rat rfl rfl) ?_
    refine RcG 8 79 false (cl2 (en Tryz.func36) (Od.lc (Φ := IsQ (IsI 8 qa.num) (IsI 8 ((qa.den : Int)))) 9 80) (Od.lc (Φ := IsQ (IsI 8 qb.num) (IsI 8 ((qb.den : Int)))) 10 81) (fun x0 x1 w' hE d0 d1 => qSub_f d0 d1 (by decide) (by decide))) ?_
    refine RcG 8 79 false (ldQ S 11 10 (g6) 0 (Od.lit 6) ld_Rat rfl rfl) ?_
    refine RcG 8 79 false (ldQ S 9 8 (g7) 0 (Od.lit 7) ld_Rat rfl rfl) ?_
    refine RcG 8 79 false (cl2 (en Tryz.func54) (Od.lc (Φ := IsQ (IsI 8 qa.num) (IsI 8 ((qa.den : Int)))) 12 83) (Od.lc (Φ := IsQ (IsI 8 qb.num) (IsI 8 ((qb.den : Int)))) 13 84) (fun x0 x1 w' hE d0 d1 => rqSub_f d0 d1 (by decide) (by decide))) ?_
    refine RcG 8 79 false (cl2 (en Tryz.func18) (Od.lc (Φ := IsQ (IsI 17 ((qa - qb).num)) (IsI 17 (((qa - qb).den : Int)))) 11 82) (Od.lc (Φ := IsQ (IsI 17 ((qa - qb).num)) (IsI 17 (((qa - qb).den : Int)))) 14 85) (fun x0 x1 w' hE d0 d1 => rqSame_eq d0 d1 (by decide) (rfl))) ?_
    refine RcG 8 79 false (nt (Od.loc 15 86)) ?_
    refine Rc (pk (Od.loc 8 79) (Od.lc 16 87)) ?_
    refine Rc (mv (Od.lc 17 88)) ?_
    refine RcG 18 89 false (ldQ S 11 10 (g6) 0 (Od.lit 6) ld_Rat rfl rfl) ?_
    refine RcG 18 89 false (ldQ S 9 8 (g7) 0 (Od.lit 7) ld_Rat rfl rfl) ?_
    refine RcG 18 89 false (cl2 (en Tryz.func38) (Od.lc (Φ := IsQ (IsI 8 qa.num) (IsI 8 ((qa.den : Int)))) 19 90) (Od.lc (Φ := IsQ (IsI 8 qb.num) (IsI 8 ((qb.den : Int)))) 20 91) (fun x0 x1 w' hE d0 d1 => qMul_f d0 d1 (by decide) (by decide))) ?_
    refine RcG 18 89 false (ldQ S 11 10 (g6) 0 (Od.lit 6) ld_Rat rfl rfl) ?_
    refine RcG 18 89 false (ldQ S 9 8 (g7) 0 (Od.lit 7) ld_Rat rfl rfl) ?_
    refine RcG 18 89 false (cl2 (en Tryz.func26) (Od.lc (Φ := IsQ (IsI 8 qa.num) (IsI 8 ((qa.den : Int)))) 22 93) (Od.lc (Φ := IsQ (IsI 8 qb.num) (IsI 8 ((qb.den : Int)))) 23 94) (fun x0 x1 w' hE d0 d1 => rqMul_f d0 d1 (by decide) (by decide))) ?_
    refine RcG 18 89 false (cl2 (en Tryz.func18) (Od.lc (Φ := IsQ (IsI 16 ((qa * qb).num)) (IsI 16 (((qa * qb).den : Int)))) 21 92) (Od.lc (Φ := IsQ (IsI 16 ((qa * qb).num)) (IsI 16 (((qa * qb).den : Int)))) 24 95) (fun x0 x1 w' hE d0 d1 => rqSame_eq d0 d1 (by decide) (rfl))) ?_
    refine RcG 18 89 false (nt (Od.loc 25 96)) ?_
    refine Rc (pk (Od.loc 18 89) (Od.lc 26 97)) ?_
    exact RgAll.nil
  intro v W13 e1 hΦ _
  replace S := S.mono e1
  have v27 : v 27 = .bool false := hΦ 27 (by decide)
  simp only [layL, Act.put, List.setIfInBounds_toArray, List.set_cons_zero, List.set_cons_succ, Nat.reduceAdd]
  rw [v27]
  clear v27 hΦ e1
  refine wpAny_done (by kernel_rfl) ?_ _
  go_upto_region 13 with (fail)
  refine rg 25 [some 99, some 100, some 101, some 102, some 103, some 104, some 105, some 106, some 107, some 108, some 109, some 110, some 111, some 112, some 113, some 114, some 115, some 116, some 117, some 118, some 119, some 120, some 121, some 122, some 4] [IsQ (IsI 8 qa.num) (IsI 8 ((qa.den : Int))), IsQ (IsI 8 qb.num) (IsI 8 ((qb.den : Int))), IsV (.int .i64 cc), IsQ (IsI 8 qa.num) (IsI 8 ((qa.den : Int))), IsQ (IsI 8 qb.num) (IsI 8 ((qb.den : Int))), IsV (.int .i64 cc), IsV (.bool true), IsV (.bool true), IsQ (IsI 8 qa.num) (IsI 8 ((qa.den : Int))), IsV (.int .i64 sg), IsQ (IsI 8 qa.num) (IsI 8 ((qa.den : Int))), IsV (.int .i64 sg), IsV (.bool true), IsV (.bool true), IsV (.bool true), IsQ (IsI 8 qa.num) (IsI 8 ((qa.den : Int))), IsI 8 qa.floor, IsQ (IsI 8 qa.num) (IsI 8 ((qa.den : Int))), IsI 8 qa.floor, IsV (.bool true), IsV (.bool true), IsV (.bool true), IsV (.bool true), IsV (.bool true), IsV (.bool true)] [] 0 ?_ ?_
  · refine Rc (ldQ S 11 10 (g6) 0 (Od.lit 6) ld_Rat rfl rfl) ?_
    refine Rc (ldQ S 9 8 (g7) 0 (Od.lit 7) ld_Rat rfl rfl) ?_
    refine Rc (cl2 (en Tryz.func21) (Od.lc (Φ := IsQ (IsI 8 qa.num) (IsI 8 ((qa.den : Int)))) 0 99) (Od.lc (Φ := IsQ (IsI 8 qb.num) (IsI 8 ((qb.den : Int)))) 1 100) (fun x0 x1 w' hE d0 d1 => Calls.mono (qCmp_f d0 d1 (by decide) (by decide)) fun _ _ h => h.int HC.out)) ?_
    refine Rc (ldQ S 11 10 (g6) 0 (Od.lit 6) ld_Rat rfl rfl) ?_
    refine Rc (ldQ S 9 8 (g7) 0 (Od.lit 7) ld_Rat rfl rfl) ?_
    refine Rc (cl2 (en Tryz.func28) (Od.lc (Φ := IsQ (IsI 8 qa.num) (IsI 8 ((qa.den : Int)))) 3 102) (Od.lc (Φ := IsQ (IsI 8 qb.num) (IsI 8 ((qb.den : Int)))) 4 103) (fun x0 x1 w' hE d0 d1 => Calls.mono (rqCmp_f d0 d1 (by decide) (by decide)) fun _ _ h => h.int HC.out)) ?_
    refine Rc (bn (r := .bool true) (Od.loc 2 101) (Od.loc 5 104) (hr := fun w => by go_simp)) ?_
    refine Rc (mv (Od.lc 6 105)) ?_
    refine RcG 7 106 true (ldQ S 11 10 (g6) 0 (Od.lit 6) ld_Rat rfl rfl) ?_
    refine RcG 7 106 true (cl1 (en Tryz.func35) (Od.lc (Φ := IsQ (IsI 8 qa.num) (IsI 8 ((qa.den : Int)))) 8 107) (fun x0 w' hE d0 => Calls.mono (qSign_f d0) fun _ _ h => h.int HS.out)) ?_
    refine RcG 7 106 true (ldQ S 11 10 (g6) 0 (Od.lit 6) ld_Rat rfl rfl) ?_
    refine RcG 7 106 true (cl1 (en Tryz.func55) (Od.lc (Φ := IsQ (IsI 8 qa.num) (IsI 8 ((qa.den : Int)))) 10 109) (fun x0 w' hE d0 => Calls.mono (rqSign_f d0) fun _ _ h => h.int HS.out)) ?_
    refine RcG 7 106 true (bn (r := .bool true) (Od.loc 9 108) (Od.loc 11 110) (hr := fun w => by go_simp)) ?_
    refine Rc (pk (Od.loc 7 106) (Od.lc 12 111)) ?_
    refine Rc (mv (Od.lc 13 112)) ?_
    refine RcG 14 113 true (ldQ S 11 10 (g6) 0 (Od.lit 6) ld_Rat rfl rfl) ?_
    refine RcG 14 113 true (cl1 (en Tryz.func39) (Od.lc (Φ := IsQ (IsI 8 qa.num) (IsI 8 ((qa.den : Int)))) 15 114) (fun x0 w' hE d0 => qFloor_f d0 (by decide))) ?_
    refine RcG 14 113 true (ldQ S 11 10 (g6) 0 (Od.lit 6) ld_Rat rfl rfl) ?_
    refine RcG 14 113 true (cl1 (en Tryz.func25) (Od.lc (Φ := IsQ (IsI 8 qa.num) (IsI 8 ((qa.den : Int)))) 17 116) (fun x0 w' hE d0 => rqFloor_f d0 (by decide))) ?_
    refine RcG 14 113 true (cl2 (en Tryz.func47) (Od.lc (Φ := IsI 8 qa.floor) 16 115) (Od.lc (Φ := IsI 8 qa.floor) 18 117) (fun x0 x1 w' hE d0 d1 => Same_t d0 d1 (rfl) (by decide))) ?_
    refine Rc (pk (Od.loc 14 113) (Od.lc 19 118)) ?_
    refine Rc (mv (Od.lc 20 119)) ?_
    refine RcG 21 120 true (mv (Od.lit 5)) ?_
    refine Rc (pk (Od.loc 21 120) (Od.lc 22 121)) ?_
    refine Rc (mv (Od.lc 23 122)) ?_
    exact RgAll.nil
  intro v W14 e1 hΦ _
  replace S := S.mono e1
  have v24 : v 24 = .bool true := hΦ 24 (by decide)
  simp only [layL, Act.put, List.setIfInBounds_toArray, List.set_cons_zero, List.set_cons_succ, Nat.reduceAdd]
  rw [v24]
  clear v24 hΦ e1
  refine wpAny_done (by kernel_rfl) ?_ _
  go_wp2_with fail
  exact bodyPost_ret (v := .bool true) (by simp [results, Tryz.results8, go_sem]) rfl (⟨_, rfl, S.ext, rfl⟩)
set_option maxRecDepth 100000 in
set_option maxHeartbeats 8000000 in
theorem QMatches_1 (w : World) (s1x s1y s2x s2y : Bool) (a1x a1y a2x a2y : Option Addr) (n1x n1y c1x c1y n2x n2y c2x c2y : Nat) (x1n x1d x2n x2d : List Nat) (h1x : Wd w a1x n1x c1x x1n) (h1y : Wd w a1y n1y c1y x1d) (h2x : Wd w a2x n2x c2x x2n) (h2y : Wd w a2y n2y c2y x2d) (ht : Tab w) (qa qb : Rat) (ha : madeQ s1x s1y x1n x1d 6 = qa) (hb : madeQ s2x s2y x2n x2d 6 = qb) (hz : qb ≠ 0) :
    Calls Tryz.prog 8 #[.agg #[.bool s1x, .slice a1x n1x c1x, .bool s1y, .slice a1y n1y c1y], .agg #[.bool s2x, .slice a2x n2x c2x, .bool s2y, .slice a2y n2y c2y]] w (Ret w (IsV (.bool true))) := by
  have Ha := hid ha
  have Hb := hid hb
  have HZ := hid hz
  obtain ⟨sg, hsg⟩ : ∃ s, qa.num.sign = s := ⟨_, rfl⟩
  have HS := hid hsg
  obtain ⟨cc, hcc⟩ : ∃ c, cmpQ qa qb = c := ⟨_, rfl⟩
  have HC := hid hcc
  have HN := hid (show qb.num ≠ 0 from fun h => hz (Rat.num_eq_zero.1 h))
  clear ha hb hz hsg hcc
  obtain ⟨W, hW, S⟩ : ∃ W, W = (w.alloc (.cells #[.bool s1x, .slice a1x n1x c1x, .bool s1y, .slice a1y n1y c1y] 26)).alloc (.cells #[.bool s2x, .slice a2x n2x c2x, .bool s2y, .slice a2y n2y c2y] 26) ∧ Sto w W [((w.heap.size + 1, 1), IsR s2y x2d), ((w.heap.size + 1, 0), IsR s2x x2n), ((w.heap.size, 1), IsR s1y x1d), ((w.heap.size, 0), IsR s1x x1n)] := ⟨_, rfl, (((Sto.start w).new2 (w.heap.size) (by simp) s1x s1y a1x a1y n1x c1x n1y c1y 26 (IsR s1x x1n) (IsR s1y x1d) (IsR.gstb _ _) (⟨_, _, _, rfl, h1x⟩) (IsR.gstb _ _) (⟨_, _, _, rfl, h1y⟩)).new2 (w.heap.size + 1) (by simp) s2x s2y a2x a2y n2x c2x n2y c2y 26 (IsR s2x x2n) (IsR s2y x2d) (IsR.gstb _ _) (⟨_, _, _, rfl, (h2x.ext ((Ext.refl _).alloc _))⟩) (IsR.gstb _ _) (⟨_, _, _, rfl, (h2y.ext ((Ext.refl _).alloc _))⟩))⟩
  clear h1x h1y h2x h2y
  go_enter Tryz.func8, Tryz.ntmps8
  go_upto_region 1 with (fail)
  rw [← hW]
  clear hW
  refine rgs 2 [some 16, some 5] [IsV (.bool true), IsV (.bool true)] [] ?_ ?_
  · refine Rc (cl0 (en Tryz.func12)  (fun w' hE => examplesQ_f _ (ht.ext (S.ext.trans hE)))) ?_
    refine Rc (mv (Od.lc 0 16)) ?_
    exact RgAll.nil
  intro v W1 e1 hΦ _
  replace S := S.mono e1
  have v1 : v 1 = .bool true := hΦ 1 (by decide)
  simp only [layL, Act.put, List.setIfInBounds_toArray, List.set_cons_zero, List.set_cons_succ, Nat.reduceAdd]
  rw [v1]
  clear v1 hΦ e1
  refine wpList_nil ?_
  go_upto_region 2 with (fail)
  refine rgs 2 [some 17, some 18] [IsV (.bool true), IsV (.bool false)] [] ?_ ?_
  · refine Rc (mv (Od.lit 5)) ?_
    refine Rc (nt (Od.loc 0 17)) ?_
    exact RgAll.nil
  intro v W2 e1 hΦ _
  replace S := S.mono e1
  have v1 : v 1 = .bool false := hΦ 1 (by decide)
  simp only [layL, Act.put, List.setIfInBounds_toArray, List.set_cons_zero, List.set_cons_succ, Nat.reduceAdd]
  rw [v1]
  clear v1 hΦ e1
  refine wpList_nil ?_
  go_upto_region 4 with (fail)
  have hl := hid S.lt; have hw := S.ext.size
  refine rgn 8 [some 19, some 20, some 21, some 22, some 6, some 7, none, none] [IsQ (IsR s1x x1n) (IsR s1y x1d), IsQ (IsI 8 qa.num) (IsI 8 ((qa.den : Int))), IsQ (IsR s2x x2n) (IsR s2y x2d), IsQ (IsI 8 qb.num) (IsI 8 ((qb.den : Int))), IsNw W2 2, IsNw W2 2, TT, TT] [4, 5] [none, none, none, none, none, none, some (4, [IsI 8 qa.num, IsI 8 ((qa.den : Int))]), some (5, [IsI 8 qb.num, IsI 8 ((qb.den : Int))])] [none, none, none, none, none, none, some 4, some 5] 0 ?_ ?_
  · refine RcK (ldQ S 3 2 (w.heap.size) 0 (Od.lit 2) ld_RawQ rfl rfl) ?_
    refine RcK (cl2 (en Tryz.func13) (Od.lc (Φ := IsQ (IsR s1x x1n) (IsR s1y x1d)) 0 19) Od.con (fun x0 x1 w' hE d0 d1 => by { obtain rfl : x1 = .int .i64 6 := d1; exact Calls.mono (rqMade_f d0 6 (by decide)) fun _ _ h => h.ratz Ha.out (Nat.le_refl _) })) ?_
    refine RcK (ldQ S 1 0 (w.heap.size + 1) 0 (Od.lit 3) ld_RawQ rfl rfl) ?_
    refine RcK (cl2 (en Tryz.func13) (Od.lc (Φ := IsQ (IsR s2x x2n) (IsR s2y x2d)) 2 21) Od.con (fun x0 x1 w' hE d0 d1 => by { obtain rfl : x1 = .int .i64 6 := d1; exact Calls.mono (rqMade_f d0 6 (by decide)) fun _ _ h => h.ratz Hb.out (Nat.le_refl _) })) ?_
    refine RcK (alN al_Rat) ?_
    refine RcK (alN al_Rat) ?_
    refine RcS 4 (sQ st_Rat (Od.lc (Φ := IsQ (IsI 8 qa.num) (IsI 8 ((qa.den : Int)))) 1 20) (IsI.gstb _ _) (IsI.gstb _ _)) ?_
    refine RcS 5 (sQ st_Rat (Od.lc (Φ := IsQ (IsI 8 qb.num) (IsI 8 ((qb.den : Int)))) 3 22) (IsI.gstb _ _) (IsI.gstb _ _)) ?_
    exact RgAllN.nil
  intro v W3 e1 hΦ hS hne
  replace S := S.mono e1
  obtain ⟨g6, v4, q1, S2⟩ := S.addQ (hΦ 4 (by decide) rfl) (hS 6 (by decide) _ _ rfl) hw (IsI.gstb _ _) (IsI.gstb _ _)
  replace S := S2 (ApartO.old hl.out q1); clear S2
  obtain ⟨g7, v5, q2, S2⟩ := S.addQ (hΦ 5 (by decide) rfl) (hS 7 (by decide) _ _ rfl) hw (IsI.gstb _ _) (IsI.gstb _ _)
  replace S := S2 (ApartO.cons (fun h => hne 4 5 (by decide) (by decide) (by decide) (by decide) (by decide) rfl rfl (by rw [v4, v5, h])) (ApartO.cons (fun h => hne 4 5 (by decide) (by decide) (by decide) (by decide) (by decide) rfl rfl (by rw [v4, v5, h])) (ApartO.old hl.out q2))); clear S2
  simp only [layL, Act.put, List.setIfInBounds_toArray, List.set_cons_zero, List.set_cons_succ, Nat.reduceAdd]
  rw [v4, v5]
  clear hl hw hne v4 v5 hΦ hS e1
  refine wpAny_done (by kernel_rfl) ?_ _
  go_upto_region 5 with (fail)
  have hl := hid S.lt; have hw := S.ext.size
  refine rgs 7 [some 24, some 25, some 26, some 23, some 27, some 28, some 8] [IsQ (IsI 8 qa.num) (IsI 8 ((qa.den : Int))), IsQ (IsI 8 qb.num) (IsI 8 ((qb.den : Int))), IsT2 (IsQ (IsI 18 ((qa / qb).num)) (IsI 18 (((qa / qb).den : Int)))) (IsV (.int .i64 0)), IsT2 (IsQ (IsI 18 ((qa / qb).num)) (IsI 18 (((qa / qb).den : Int)))) (IsV (.int .i64 0)), IsQ (IsI 18 ((qa / qb).num)) (IsI 18 (((qa / qb).den : Int))), IsV (.int .i64 0), IsBo W3 2] [6] ?_ ?_
  · refine Rc (ldQ S 3 2 (g6) 0 (Od.lit 6) ld_Rat rfl rfl) ?_
    refine Rc (ldQ S 1 0 (g7) 0 (Od.lit 7) ld_Rat rfl rfl) ?_
    refine Rc (cl2 (en Tryz.func50) (Od.lc (Φ := IsQ (IsI 8 qa.num) (IsI 8 ((qa.den : Int)))) 0 24) (Od.lc (Φ := IsQ (IsI 8 qb.num) (IsI 8 ((qb.den : Int)))) 1 25) (fun x0 x1 w' hE d0 d1 => qDiv_f d0 d1 (by decide) (by decide) HZ.out)) ?_
    refine Rc (mv (Od.lc 2 26)) ?_
    refine Rc (ex (Od.loc 3 23) t20) ?_
    refine Rc (ex (Od.loc 3 23) t21) ?_
    refine Rc (al al_Rat) ?_
    exact RgAll.nil
  intro v W4 e1 hΦ _
  replace S := S.mono e1
  have h27 := hΦ 4 (by decide)
  have v5 : v 5 = .int .i64 0 := hΦ 5 (by decide)
  obtain ⟨g8, v6, q4, b3, _⟩ := (hΦ 6 (by decide) : IsBo W3 2 (v 6) W4)
  replace S := S.addN 2 (ApartO.old hl.out q4) (Nat.le_trans hw q4) b3
  simp only [newF, List.cons_append, List.nil_append] at S
  simp only [layL, Act.put, List.setIfInBounds_toArray, List.set_cons_zero, List.set_cons_succ, Nat.reduceAdd]
  rw [v5, v6]
  clear b3 hl hw v5 v6 hΦ e1
  try simp only [List.drop_succ_cons, List.drop_zero]
  (with_reducible refine stL ?_ (by rfl)); intro KK hKK; refine stQ S 1 0 (g8) 0 h27 (IsI.gstb _ _) (IsI.gstb _ _) st_Rat (fun W5 S2 G2 => hKK _ _ ?_) rfl rfl
  replace S := S2; clear S2 G2 hKK KK h27
  simp only [List.set_cons_zero, List.set_cons_succ] at S
  refine wpList_step fun K hK => ?_; go_simp; refine hK _ _ ?_; clear hK K
  refine wpList_nil ?_
  go_upto_region 6 with (fail)
  have hl := hid S.lt; have hw := S.ext.size
  refine rgs 7 [some 30, some 31, some 32, some 29, some 33, some 34, some 10] [IsQ (IsI 8 qa.num) (IsI 8 ((qa.den : Int))), IsQ (IsI 8 qb.num) (IsI 8 ((qb.den : Int))), IsT2 (IsQ (IsI 18 ((qa / qb).num)) (IsI 18 (((qa / qb).den : Int)))) (IsV (.int .i64 0)), IsT2 (IsQ (IsI 18 ((qa / qb).num)) (IsI 18 (((qa / qb).den : Int)))) (IsV (.int .i64 0)), IsQ (IsI 18 ((qa / qb).num)) (IsI 18 (((qa / qb).den : Int))), IsV (.int .i64 0), IsBo W5 2] [6] ?_ ?_
  · refine Rc (ldQ S 5 4 (g6) 0 (Od.lit 6) ld_Rat rfl rfl) ?_
    refine Rc (ldQ S 3 2 (g7) 0 (Od.lit 7) ld_Rat rfl rfl) ?_
    refine Rc (cl2 (en Tryz.func51) (Od.lc (Φ := IsQ (IsI 8 qa.num) (IsI 8 ((qa.den : Int)))) 0 30) (Od.lc (Φ := IsQ (IsI 8 qb.num) (IsI 8 ((qb.den : Int)))) 1 31) (fun x0 x1 w' hE d0 d1 => rqDiv_f d0 d1 (by decide) (by decide) HZ.out)) ?_
    refine Rc (mv (Od.lc 2 32)) ?_
    refine Rc (ex (Od.loc 3 29) t20) ?_
    refine Rc (ex (Od.loc 3 29) t21) ?_
    refine Rc (al al_Rat) ?_
    exact RgAll.nil
  intro v W6 e1 hΦ _
  replace S := S.mono e1
  have h33 := hΦ 4 (by decide)
  have v5 : v 5 = .int .i64 0 := hΦ 5 (by decide)
  obtain ⟨g10, v6, q6, b5, _⟩ := (hΦ 6 (by decide) : IsBo W5 2 (v 6) W6)
  replace S := S.addN 2 (ApartO.old hl.out q6) (Nat.le_trans hw q6) b5
  simp only [newF, List.cons_append, List.nil_append] at S
  simp only [layL, Act.put, List.setIfInBounds_toArray, List.set_cons_zero, List.set_cons_succ, Nat.reduceAdd]
  rw [v5, v6]
  clear b5 hl hw v5 v6 hΦ e1
  try simp only [List.drop_succ_cons, List.drop_zero]
  (with_reducible refine stL ?_ (by rfl)); intro KK hKK; refine stQ S 1 0 (g10) 0 h33 (IsI.gstb _ _) (IsI.gstb _ _) st_Rat (fun W7 S2 G2 => hKK _ _ ?_) rfl rfl
  replace S := S2; clear S2 G2 hKK KK h33
  simp only [List.set_cons_zero, List.set_cons_succ] at S
  refine wpList_step fun K hK => ?_; go_simp; refine hK _ _ ?_; clear hK K
  refine wpList_nil ?_
  go_upto_region 7 with (fail)
  have hl := hid S.lt; have hw := S.ext.size
  refine rgs 9 [some 36, some 37, some 38, some 39, some 40, some 35, some 41, some 42, some 12] [IsV (.pointer (some ⟨g6, 0, none⟩)), IsI 8 qa.num, IsV (.pointer (some ⟨g7, 0, none⟩)), IsI 8 qb.num, IsT2 (IsQ (IsI 10 ((Rat.divInt qa.num qb.num).num)) (IsI 10 (((Rat.divInt qa.num qb.num).den : Int)))) (IsV (.int .i64 0)), IsT2 (IsQ (IsI 10 ((Rat.divInt qa.num qb.num).num)) (IsI 10 (((Rat.divInt qa.num qb.num).den : Int)))) (IsV (.int .i64 0)), IsQ (IsI 10 ((Rat.divInt qa.num qb.num).num)) (IsI 10 (((Rat.divInt qa.num qb.num).den : Int))), IsV (.int .i64 0), IsBo W7 2] [8] ?_ ?_
  · refine Rc (fa (fa_Rat0 (g6) 0) (Od.lit 6)) ?_
    refine Rc (ldI S 7 (g6) 0 (Od.lc 0 36) ld_Int) ?_
    refine Rc (fa (fa_Rat0 (g7) 0) (Od.lit 7)) ?_
    refine Rc (ldI S 5 (g7) 0 (Od.lc 2 38) ld_Int) ?_
    refine Rc (cl2 (en Tryz.func30) (Od.lc (Φ := IsI 8 qa.num) 1 37) (Od.lc (Φ := IsI 8 qb.num) 3 39) (fun x0 x1 w' hE d0 d1 => qNew_f d0 d1 (by decide) (by decide) HN.out)) ?_
    refine Rc (mv (Od.lc 4 40)) ?_
    refine Rc (ex (Od.loc 5 35) t20) ?_
    refine Rc (ex (Od.loc 5 35) t21) ?_
    refine Rc (al al_Rat) ?_
    exact RgAll.nil
  intro v W8 e1 hΦ _
  replace S := S.mono e1
  have h41 := hΦ 6 (by decide)
  have v7 : v 7 = .int .i64 0 := hΦ 7 (by decide)
  obtain ⟨g12, v8, q8, b7, _⟩ := (hΦ 8 (by decide) : IsBo W7 2 (v 8) W8)
  replace S := S.addN 2 (ApartO.old hl.out q8) (Nat.le_trans hw q8) b7
  simp only [newF, List.cons_append, List.nil_append] at S
  simp only [layL, Act.put, List.setIfInBounds_toArray, List.set_cons_zero, List.set_cons_succ, Nat.reduceAdd]
  rw [v7, v8]
  clear b7 hl hw v7 v8 hΦ e1
  try simp only [List.drop_succ_cons, List.drop_zero]
  (with_reducible refine stL ?_ (by rfl)); intro KK hKK; refine stQ S 1 0 (g12) 0 h41 (IsI.gstb _ _) (IsI.gstb _ _) st_Rat (fun W9 S2 G2 => hKK _ _ ?_) rfl rfl
  replace S := S2; clear S2 G2 hKK KK h41
  simp only [List.set_cons_zero, List.set_cons_succ] at S
  refine wpList_step fun K hK => ?_; go_simp; refine hK _ _ ?_; clear hK K
  refine wpList_nil ?_
  go_upto_region 8 with (fail)
  have hl := hid S.lt; have hw := S.ext.size
  refine rgs 9 [some 44, some 45, some 46, some 47, some 48, some 43, some 49, some 50, some 14] [IsV (.pointer (some ⟨g6, 0, none⟩)), IsI 8 qa.num, IsV (.pointer (some ⟨g7, 0, none⟩)), IsI 8 qb.num, IsT2 (IsQ (IsI 8 ((Rat.divInt qa.num qb.num).num)) (IsI 8 (((Rat.divInt qa.num qb.num).den : Int)))) (IsV (.int .i64 0)), IsT2 (IsQ (IsI 8 ((Rat.divInt qa.num qb.num).num)) (IsI 8 (((Rat.divInt qa.num qb.num).den : Int)))) (IsV (.int .i64 0)), IsQ (IsI 8 ((Rat.divInt qa.num qb.num).num)) (IsI 8 (((Rat.divInt qa.num qb.num).den : Int))), IsV (.int .i64 0), IsBo W9 2] [8] ?_ ?_
  · refine Rc (fa (fa_Rat0 (g6) 0) (Od.lit 6)) ?_
    refine Rc (ldI S 9 (g6) 0 (Od.lc 0 44) ld_Int) ?_
    refine Rc (fa (fa_Rat0 (g7) 0) (Od.lit 7)) ?_
    refine Rc (ldI S 7 (g7) 0 (Od.lc 2 46) ld_Int) ?_
    refine Rc (cl2 (en Tryz.func52) (Od.lc (Φ := IsI 8 qa.num) 1 45) (Od.lc (Φ := IsI 8 qb.num) 3 47) (fun x0 x1 w' hE d0 d1 => rqNew_f d0 d1 (by decide) (by decide) HN.out)) ?_
    refine Rc (mv (Od.lc 4 48)) ?_
    refine Rc (ex (Od.loc 5 43) t20) ?_
    refine Rc (ex (Od.loc 5 43) t21) ?_
    refine Rc (al al_Rat) ?_
    exact RgAll.nil
  intro v W10 e1 hΦ _
  replace S := S.mono e1
  have h49 := hΦ 6 (by decide)
  have v7 : v 7 = .int .i64 0 := hΦ 7 (by decide)
  obtain ⟨g14, v8, q10, b9, _⟩ := (hΦ 8 (by decide) : IsBo W9 2 (v 8) W10)
  replace S := S.addN 2 (ApartO.old hl.out q10) (Nat.le_trans hw q10) b9
  simp only [newF, List.cons_append, List.nil_append] at S
  simp only [layL, Act.put, List.setIfInBounds_toArray, List.set_cons_zero, List.set_cons_succ, Nat.reduceAdd]
  rw [v7, v8]
  clear b9 hl hw v7 v8 hΦ e1
  try simp only [List.drop_succ_cons, List.drop_zero]
  (with_reducible refine stL ?_ (by rfl)); intro KK hKK; refine stQ S 1 0 (g14) 0 h49 (IsI.gstb _ _) (IsI.gstb _ _) st_Rat (fun W11 S2 G2 => hKK _ _ ?_) rfl rfl
  replace S := S2; clear S2 G2 hKK KK h49
  simp only [List.set_cons_zero, List.set_cons_succ] at S
  refine wpList_step fun K hK => ?_; go_simp; refine hK _ _ ?_; clear hK K
  refine wpList_nil ?_
  go_upto_region 9 with (fail)
  refine rgs 20 [some 51, some 52, some 53, some 54, some 55, some 56, some 57, some 58, some 59, some 60, some 61, some 62, some 63, some 64, some 65, some 66, some 67, some 68, some 69, some 70] [IsV (.int .i64 0), IsV (.int .i64 0), IsV (.bool false), IsV (.bool false), IsV (.int .i64 0), IsV (.int .i64 0), IsV (.bool false), IsV (.bool false), IsV (.bool false), IsQ (IsI 18 ((qa / qb).num)) (IsI 18 (((qa / qb).den : Int))), IsQ (IsI 18 ((qa / qb).num)) (IsI 18 (((qa / qb).den : Int))), IsV (.bool true), IsV (.bool false), IsV (.bool false), IsV (.bool false), IsQ (IsI 10 ((Rat.divInt qa.num qb.num).num)) (IsI 10 (((Rat.divInt qa.num qb.num).den : Int))), IsQ (IsI 8 ((Rat.divInt qa.num qb.num).num)) (IsI 8 (((Rat.divInt qa.num qb.num).den : Int))), IsV (.bool true), IsV (.bool false), IsV (.bool false)] [] ?_ ?_
  · refine Rc (mv (Od.lit 9)) ?_
    refine Rc (mv (Od.lit 11)) ?_
    refine Rc (bn (r := .bool false) (Od.loc 0 51) (Od.loc 1 52) (hr := fun w => by go_simp)) ?_
    refine Rc (mv (Od.lc 2 53)) ?_
    refine RcG 3 54 false (mv (Od.lit 13)) ?_
    refine RcG 3 54 false (mv (Od.lit 15)) ?_
    refine RcG 3 54 false (bn (r := .bool false) (Od.loc 4 55) (Od.loc 5 56) (hr := fun w => by go_simp)) ?_
    refine Rc (pk (Od.loc 3 54) (Od.lc 6 57)) ?_
    refine Rc (mv (Od.lc 7 58)) ?_
    refine RcG 8 59 false (ldQ S 7 6 (g8) 0 (Od.lit 8) ld_Rat rfl rfl) ?_
    refine RcG 8 59 false (ldQ S 5 4 (g10) 0 (Od.lit 10) ld_Rat rfl rfl) ?_
    refine RcG 8 59 false (cl2 (en Tryz.func18) (Od.lc (Φ := IsQ (IsI 18 ((qa / qb).num)) (IsI 18 (((qa / qb).den : Int)))) 9 60) (Od.lc (Φ := IsQ (IsI 18 ((qa / qb).num)) (IsI 18 (((qa / qb).den : Int)))) 10 61) (fun x0 x1 w' hE d0 d1 => rqSame_eq d0 d1 (by decide) (rfl))) ?_
    refine RcG 8 59 false (nt (Od.loc 11 62)) ?_
    refine Rc (pk (Od.loc 8 59) (Od.lc 12 63)) ?_
    refine Rc (mv (Od.lc 13 64)) ?_
    refine RcG 14 65 false (ldQ S 3 2 (g12) 0 (Od.lit 12) ld_Rat rfl rfl) ?_
    refine RcG 14 65 false (ldQ S 1 0 (g14) 0 (Od.lit 14) ld_Rat rfl rfl) ?_
    refine RcG 14 65 false (cl2 (en Tryz.func18) (Od.lc (Φ := IsQ (IsI 10 ((Rat.divInt qa.num qb.num).num)) (IsI 10 (((Rat.divInt qa.num qb.num).den : Int)))) 15 66) (Od.lc (Φ := IsQ (IsI 8 ((Rat.divInt qa.num qb.num).num)) (IsI 8 (((Rat.divInt qa.num qb.num).den : Int)))) 16 67) (fun x0 x1 w' hE d0 d1 => rqSame_eq d0 d1 (by decide) (rfl))) ?_
    refine RcG 14 65 false (nt (Od.loc 17 68)) ?_
    refine Rc (pk (Od.loc 14 65) (Od.lc 18 69)) ?_
    exact RgAll.nil
  intro v W12 e1 hΦ _
  replace S := S.mono e1
  have v19 : v 19 = .bool false := hΦ 19 (by decide)
  simp only [layL, Act.put, List.setIfInBounds_toArray, List.set_cons_zero, List.set_cons_succ, Nat.reduceAdd]
  rw [v19]
  clear v19 hΦ e1
  refine wpList_nil ?_
  go_upto_region 11 with (fail)
  refine rg 28 [some 71, some 72, some 73, some 74, some 75, some 76, some 77, some 78, some 79, some 80, some 81, some 82, some 83, some 84, some 85, some 86, some 87, some 88, some 89, some 90, some 91, some 92, some 93, some 94, some 95, some 96, some 97, some 98] [IsQ (IsI 8 qa.num) (IsI 8 ((qa.den : Int))), IsQ (IsI 8 qb.num) (IsI 8 ((qb.den : Int))), IsQ (IsI 17 ((qa + qb).num)) (IsI 17 (((qa + qb).den : Int))), IsQ (IsI 8 qa.num) (IsI 8 ((qa.den : Int))), IsQ (IsI 8 qb.num) (IsI 8 ((qb.den : Int))), IsQ (IsI 17 ((qa + qb).num)) (IsI 17 (((qa + qb).den : Int))), IsV (.bool true), IsV (.bool false), IsV (.bool false), IsQ (IsI 8 qa.num) (IsI 8 ((qa.den : Int))), IsQ (IsI 8 qb.num) (IsI 8 ((qb.den : Int))), IsQ (IsI 17 ((qa - qb).num)) (IsI 17 (((qa - qb).den : Int))), IsQ (IsI 8 qa.num) (IsI 8 ((qa.den : Int))), IsQ (IsI 8 qb.num) (IsI 8 ((qb.den : Int))), IsQ (IsI 17 ((qa - qb).num)) (IsI 17 (((qa - qb).den : Int))), IsV (.bool true), IsV (.bool false), IsV (.bool false), IsV (.bool false), IsQ (IsI 8 qa.num) (IsI 8 ((qa.den : Int))), IsQ (IsI 8 qb.num) (IsI 8 ((qb.den : Int))), IsQ (IsI 16 ((qa * qb).num)) (IsI 16 (((qa * qb).den : Int))), IsQ (IsI 8 qa.num) (IsI 8 ((qa.den : Int))), IsQ (IsI 8 qb.num) (IsI 8 ((qb.den : Int))), IsQ (IsI 16 ((qa * qb).num)) (IsI 16 (((qa * qb).den : Int))), IsV (.bool true), IsV (.bool false), IsV (.bool false)] [] 0 ?_ ?_
  · refine Rc (ldQ S 11 10 (g6) 0 (Od.lit 6) ld_Rat rfl rfl) ?_
    refine Rc (ldQ S 9 8 (g7) 0 (Od.lit 7) ld_Rat rfl rfl) ?_
    refine Rc (cl2 (en Tryz.func37) (Od.lc (Φ := IsQ (IsI 8 qa.num) (IsI 8 ((qa.den : Int)))) 0 71) (Od.lc (Φ := IsQ (IsI 8 qb.num) (IsI 8 ((qb.den : Int)))) 1 72) (fun x0 x1 w' hE d0 d1 => qAdd_f d0 d1 (by decide) (by decide))) ?_
    refine Rc (ldQ S 11 10 (g6) 0 (Od.lit 6) ld_Rat rfl rfl) ?_
    refine Rc (ldQ S 9 8 (g7) 0 (Od.lit 7) ld_Rat rfl rfl) ?_
    refine Rc (cl2 (en Tryz.func53) (Od.lc (Φ := IsQ (IsI 8 qa.num) (IsI 8 ((qa.den : Int)))) 3 74) (Od.lc (Φ := IsQ (IsI 8 qb.num) (IsI 8 ((qb.den : Int)))) 4 75) (fun x0 x1 w' hE d0 d1 => rqAdd_f d0 d1 (by decide) (by decide))) ?_
    refine Rc (cl2 (en Tryz.func18) (Od.lc (Φ := IsQ (IsI 17 ((qa + qb).num)) (IsI 17 (((qa + qb).den : Int)))) 2 73) (Od.lc (Φ := IsQ (IsI 17 ((qa + qb).num)) (IsI 17 (((qa + qb).den : Int)))) 5 76) (fun x0 x1 w' hE d0 d1 => rqSame_eq d0 d1 (by decide) (rfl))) ?_
    refine Rc (nt (Od.loc 6 77)) ?_
    refine Rc (mv (Od.lc 7 78)) ?_
    refine RcG 8 79 false (ldQ S 11 10 (g6) 0 (Od.lit 6) ld_Rat rfl rfl) ?_
    refine RcG 8 79 false (ldQ S 9 8 (g7) 0 (Od.lit 7) ld_Rat rfl rfl) ?_
    refine RcG 8 79 false (cl2 (en Tryz.func36) (Od.lc (Φ := IsQ (IsI 8 qa.num) (IsI 8 ((qa.den : Int)))) 9 80) (Od.lc (Φ := IsQ (IsI 8 qb.num) (IsI 8 ((qb.den : Int)))) 10 81) (fun x0 x1 w' hE d0 d1 => qSub_f d0 d1 (by decide) (by decide))) ?_
    refine RcG 8 79 false (ldQ S 11 10 (g6) 0 (Od.lit 6) ld_Rat rfl rfl) ?_
    refine RcG 8 79 false (ldQ S 9 8 (g7) 0 (Od.lit 7) ld_Rat rfl rfl) ?_
    refine RcG 8 79 false (cl2 (en Tryz.func54) (Od.lc (Φ := IsQ (IsI 8 qa.num) (IsI 8 ((qa.den : Int)))) 12 83) (Od.lc (Φ := IsQ (IsI 8 qb.num) (IsI 8 ((qb.den : Int)))) 13 84) (fun x0 x1 w' hE d0 d1 => rqSub_f d0 d1 (by decide) (by decide))) ?_
    refine RcG 8 79 false (cl2 (en Tryz.func18) (Od.lc (Φ := IsQ (IsI 17 ((qa - qb).num)) (IsI 17 (((qa - qb).den : Int)))) 11 82) (Od.lc (Φ := IsQ (IsI 17 ((qa - qb).num)) (IsI 17 (((qa - qb).den : Int)))) 14 85) (fun x0 x1 w' hE d0 d1 => rqSame_eq d0 d1 (by decide) (rfl))) ?_
    refine RcG 8 79 false (nt (Od.loc 15 86)) ?_
    refine Rc (pk (Od.loc 8 79) (Od.lc 16 87)) ?_
    refine Rc (mv (Od.lc 17 88)) ?_
    refine RcG 18 89 false (ldQ S 11 10 (g6) 0 (Od.lit 6) ld_Rat rfl rfl) ?_
    refine RcG 18 89 false (ldQ S 9 8 (g7) 0 (Od.lit 7) ld_Rat rfl rfl) ?_
    refine RcG 18 89 false (cl2 (en Tryz.func38) (Od.lc (Φ := IsQ (IsI 8 qa.num) (IsI 8 ((qa.den : Int)))) 19 90) (Od.lc (Φ := IsQ (IsI 8 qb.num) (IsI 8 ((qb.den : Int)))) 20 91) (fun x0 x1 w' hE d0 d1 => qMul_f d0 d1 (by decide) (by decide))) ?_
    refine RcG 18 89 false (ldQ S 11 10 (g6) 0 (Od.lit 6) ld_Rat rfl rfl) ?_
    refine RcG 18 89 false (ldQ S 9 8 (g7) 0 (Od.lit 7) ld_Rat rfl rfl) ?_
    refine RcG 18 89 false (cl2 (en Tryz.func26) (Od.lc (Φ := IsQ (IsI 8 qa.num) (IsI 8 ((qa.den : Int)))) 22 93) (Od.lc (Φ := IsQ (IsI 8 qb.num) (IsI 8 ((qb.den : Int)))) 23 94) (fun x0 x1 w' hE d0 d1 => rqMul_f d0 d1 (by decide) (by decide))) ?_
    refine RcG 18 89 false (cl2 (en Tryz.func18) (Od.lc (Φ := IsQ (IsI 16 ((qa * qb).num)) (IsI 16 (((qa * qb).den : Int)))) 21 92) (Od.lc (Φ := IsQ (IsI 16 ((qa * qb).num)) (IsI 16 (((qa * qb).den : Int)))) 24 95) (fun x0 x1 w' hE d0 d1 => rqSame_eq d0 d1 (by decide) (rfl))) ?_
    refine RcG 18 89 false (nt (Od.loc 25 96)) ?_
    refine Rc (pk (Od.loc 18 89) (Od.lc 26 97)) ?_
    exact RgAll.nil
  intro v W13 e1 hΦ _
  replace S := S.mono e1
  have v27 : v 27 = .bool false := hΦ 27 (by decide)
  simp only [layL, Act.put, List.setIfInBounds_toArray, List.set_cons_zero, List.set_cons_succ, Nat.reduceAdd]
  rw [v27]
  clear v27 hΦ e1
  refine wpAny_done (by kernel_rfl) ?_ _
  go_upto_region 13 with (fail)
  refine rg 25 [some 99, some 100, some 101, some 102, some 103, some 104, some 105, some 106, some 107, some 108, some 109, some 110, some 111, some 112, some 113, some 114, some 115, some 116, some 117, some 118, some 119, some 120, some 121, some 122, some 4] [IsQ (IsI 8 qa.num) (IsI 8 ((qa.den : Int))), IsQ (IsI 8 qb.num) (IsI 8 ((qb.den : Int))), IsV (.int .i64 cc), IsQ (IsI 8 qa.num) (IsI 8 ((qa.den : Int))), IsQ (IsI 8 qb.num) (IsI 8 ((qb.den : Int))), IsV (.int .i64 cc), IsV (.bool true), IsV (.bool true), IsQ (IsI 8 qa.num) (IsI 8 ((qa.den : Int))), IsV (.int .i64 sg), IsQ (IsI 8 qa.num) (IsI 8 ((qa.den : Int))), IsV (.int .i64 sg), IsV (.bool true), IsV (.bool true), IsV (.bool true), IsQ (IsI 8 qa.num) (IsI 8 ((qa.den : Int))), IsI 8 qa.floor, IsQ (IsI 8 qa.num) (IsI 8 ((qa.den : Int))), IsI 8 qa.floor, IsV (.bool true), IsV (.bool true), IsV (.bool true), IsV (.bool true), IsV (.bool true), IsV (.bool true)] [] 0 ?_ ?_
  · refine Rc (ldQ S 11 10 (g6) 0 (Od.lit 6) ld_Rat rfl rfl) ?_
    refine Rc (ldQ S 9 8 (g7) 0 (Od.lit 7) ld_Rat rfl rfl) ?_
    refine Rc (cl2 (en Tryz.func21) (Od.lc (Φ := IsQ (IsI 8 qa.num) (IsI 8 ((qa.den : Int)))) 0 99) (Od.lc (Φ := IsQ (IsI 8 qb.num) (IsI 8 ((qb.den : Int)))) 1 100) (fun x0 x1 w' hE d0 d1 => Calls.mono (qCmp_f d0 d1 (by decide) (by decide)) fun _ _ h => h.int HC.out)) ?_
    refine Rc (ldQ S 11 10 (g6) 0 (Od.lit 6) ld_Rat rfl rfl) ?_
    refine Rc (ldQ S 9 8 (g7) 0 (Od.lit 7) ld_Rat rfl rfl) ?_
    refine Rc (cl2 (en Tryz.func28) (Od.lc (Φ := IsQ (IsI 8 qa.num) (IsI 8 ((qa.den : Int)))) 3 102) (Od.lc (Φ := IsQ (IsI 8 qb.num) (IsI 8 ((qb.den : Int)))) 4 103) (fun x0 x1 w' hE d0 d1 => Calls.mono (rqCmp_f d0 d1 (by decide) (by decide)) fun _ _ h => h.int HC.out)) ?_
    refine Rc (bn (r := .bool true) (Od.loc 2 101) (Od.loc 5 104) (hr := fun w => by go_simp)) ?_
    refine Rc (mv (Od.lc 6 105)) ?_
    refine RcG 7 106 true (ldQ S 11 10 (g6) 0 (Od.lit 6) ld_Rat rfl rfl) ?_
    refine RcG 7 106 true (cl1 (en Tryz.func35) (Od.lc (Φ := IsQ (IsI 8 qa.num) (IsI 8 ((qa.den : Int)))) 8 107) (fun x0 w' hE d0 => Calls.mono (qSign_f d0) fun _ _ h => h.int HS.out)) ?_
    refine RcG 7 106 true (ldQ S 11 10 (g6) 0 (Od.lit 6) ld_Rat rfl rfl) ?_
    refine RcG 7 106 true (cl1 (en Tryz.func55) (Od.lc (Φ := IsQ (IsI 8 qa.num) (IsI 8 ((qa.den : Int)))) 10 109) (fun x0 w' hE d0 => Calls.mono (rqSign_f d0) fun _ _ h => h.int HS.out)) ?_
    refine RcG 7 106 true (bn (r := .bool true) (Od.loc 9 108) (Od.loc 11 110) (hr := fun w => by go_simp)) ?_
    refine Rc (pk (Od.loc 7 106) (Od.lc 12 111)) ?_
    refine Rc (mv (Od.lc 13 112)) ?_
    refine RcG 14 113 true (ldQ S 11 10 (g6) 0 (Od.lit 6) ld_Rat rfl rfl) ?_
    refine RcG 14 113 true (cl1 (en Tryz.func39) (Od.lc (Φ := IsQ (IsI 8 qa.num) (IsI 8 ((qa.den : Int)))) 15 114) (fun x0 w' hE d0 => qFloor_f d0 (by decide))) ?_
    refine RcG 14 113 true (ldQ S 11 10 (g6) 0 (Od.lit 6) ld_Rat rfl rfl) ?_
    refine RcG 14 113 true (cl1 (en Tryz.func25) (Od.lc (Φ := IsQ (IsI 8 qa.num) (IsI 8 ((qa.den : Int)))) 17 116) (fun x0 w' hE d0 => rqFloor_f d0 (by decide))) ?_
    refine RcG 14 113 true (cl2 (en Tryz.func47) (Od.lc (Φ := IsI 8 qa.floor) 16 115) (Od.lc (Φ := IsI 8 qa.floor) 18 117) (fun x0 x1 w' hE d0 d1 => Same_t d0 d1 (rfl) (by decide))) ?_
    refine Rc (pk (Od.loc 14 113) (Od.lc 19 118)) ?_
    refine Rc (mv (Od.lc 20 119)) ?_
    refine RcG 21 120 true (mv (Od.lit 5)) ?_
    refine Rc (pk (Od.loc 21 120) (Od.lc 22 121)) ?_
    refine Rc (mv (Od.lc 23 122)) ?_
    exact RgAll.nil
  intro v W14 e1 hΦ _
  replace S := S.mono e1
  have v24 : v 24 = .bool true := hΦ 24 (by decide)
  simp only [layL, Act.put, List.setIfInBounds_toArray, List.set_cons_zero, List.set_cons_succ, Nat.reduceAdd]
  rw [v24]
  clear v24 hΦ e1
  refine wpAny_done (by kernel_rfl) ?_ _
  go_wp2_with fail
  exact bodyPost_ret (v := .bool true) (by simp [results, Tryz.results8, go_sem]) rfl (⟨_, rfl, S.ext, rfl⟩)

theorem QMatches_c (w : World) (s1x s1y s2x s2y : Bool) (a1x a1y a2x a2y : Option Addr) (n1x n1y c1x c1y n2x n2y c2x c2y : Nat) (x1n x1d x2n x2d : List Nat) (h1x : Wd w a1x n1x c1x x1n) (h1y : Wd w a1y n1y c1y x1d) (h2x : Wd w a2x n2x c2x x2n) (h2y : Wd w a2y n2y c2y x2d) (ht : Tab w) :
    Calls Tryz.prog 8 #[.agg #[.bool s1x, .slice a1x n1x c1x, .bool s1y, .slice a1y n1y c1y], .agg #[.bool s2x, .slice a2x n2x c2x, .bool s2y, .slice a2y n2y c2y]] w (Ret w (IsV (.bool true))) := by
  by_cases hz : madeQ s2x s2y x2n x2d 6 = 0
  · exact QMatches_0 w s1x s1y s2x s2y a1x a1y a2x a2y n1x n1y c1x c1y n2x n2y c2x c2y x1n x1d x2n x2d h1x h1y h2x h2y ht _ _ rfl rfl hz
  · exact QMatches_1 w s1x s1y s2x s2y a1x a1y a2x a2y n1x n1y c1x c1y n2x n2y c2x c2y x1n x1d x2n x2d h1x h1y h2x h2y ht _ _ rfl rfl hz
end Go.Proofs.YtcgdkfadcglekaaGreatDoor
namespace Go.Proofs.YtcgdkfadcglekaaGreatDoor
open Go Go.RowKit Go.ChangeShapes Go.WideShapes Go.ChangeAt

set_option maxRecDepth 100000 in
theorem rationalMatchesReference_lifted (os : Os) (started : os.Started) (H : Type) (enc : TypeId × Value → H) :
    ReturnsInHanded {} Tryz.checked os 8 .any (fun w args => (Rows.rationalMatchesReferenceSpec.pre enc Tryz.prog Tryz.f8 [] false w args ∧ laidMetH Tryz.prog laid3 w) ∧ sizedMet enc Tryz.prog Tryz.f8 (OpenSpec.ofChange Rows.rationalMatchesReferenceSpec) false w args)
      (Rows.rationalMatchesReferenceSpec.post enc Tryz.prog Tryz.f8 false true false false) := by
  refine returnsInHanded_of_change_and (C := Tryz.checked) (X := fun w _ => laidMetH Tryz.prog laid3 w) (fun _ _ _ hh h => h.of_heap hh) own started (by kernel_rfl) Tryz.func8
    (ChangeSpec.witness_shaped (enc := enc) (C := Tryz.checked) (os := os) (X := fun w _ => laidMetH Tryz.prog laid3 w) false (World.doorLaid Tryz.prog 2000 os) #[.agg #[.bool false, .slice none 0 0, .bool false, .slice none 0 0], .agg #[.bool false, .slice none 0 0, .bool false, .slice none 0 0]] 8 rfl (World.shaped_of_RefB (by kernel_rfl) (by kernel_rfl)) (by kernel_rfl) (by kernel_rfl) (by kernel_rfl) (door_met os _)) ?_
  intro W base args ds gs before hval0 hW _ _ hL _
  have hval : ∀ (j : Nat) t v, Tryz.f8.params[j]? = some t → args[j]? = some v → Value.okWide Tryz.prog W .any base t v := hval0
  have hW' := hW
  obtain ⟨p, q, hA0, hV, rfl, hfz, hnd⟩ := hW
  have hA : DataW.TrodAll enc Tryz.prog W 0 (fun _ => true) true Tryz.f8.params.toList args.toList ds p := hA0
  rw [Tryz.params8] at hA hval
  obtain ⟨v1, v2, d1, d2, p1, p2, rfl, rfl, rfl, k1, k2⟩ := trodAll_two hA
  obtain ⟨rfl, rfl⟩ := trodVars_none hV
  obtain ⟨s1x, a1x, n1x, c1x, x1n, s1y, a1y, n1y, c1y, x1d, rfl, w1x, w1y, r1⟩ := rawq_open (hval 0 26 v1 rfl rfl) k1
  obtain ⟨s2x, a2x, n2x, c2x, x2n, s2y, a2y, n2y, c2y, x2d, rfl, w2x, w2y, r2⟩ := rawq_open (hval 1 26 v2 rfl rfl) k2
  clear hA0 hval0
  refine (QMatches_c W s1x s1y s2x s2y a1x a1y a2x a2y n1x n1y c1x c1y n2x n2y c2x c2y x1n x1d x2n x2d w1x w1y w2x w2y (tab_of_laid hL)).mono fun e W' ⟨x, he, hb, hx⟩ => ?_
  have hx : x = .bool true := hx
  subst he; subst hx
  refine ⟨_, rfl, post_of_below (pa := p1 ++ p2) (pv := []) hW' (fun _ _ _ => trodAll_mk1 (shut_bool Tryz.underlying4 true)) (fun sp hsp => ?_) (fun _ _ => rfl) (by simp) hb (ok_one (by kernel_rfl) rfl (okWide_bool_mk Tryz.underlying4 _))⟩
  rw [Tryz.params8]
  exact trodAll_mk2 (r1 W' sp hb fun q hq => hsp q (by simp [hq])) (r2 W' sp hb fun q hq => hsp q (by simp [hq]))

theorem rationalMatchesReference_row : Rows.RationalMatchesReferenceSaid :=
  OpenClaim.holds_of_wide 8 Tryz.f8 rfl rfl rfl rfl rfl rfl rfl ⟨rfl, rfl, rfl, rfl, rfl⟩ rfl rfl rfl rfl rfl (by kernel_rfl) Tryz.func8 (by kernel_rfl)
    (of_decide_eq_true (by kernel_rfl)) (by unfold Func.isWrapper; first | (rw [if_pos (by decide +kernel)]; kernel_rfl) | (rw [if_neg (by decide +kernel)]; exact ⟨rfl, rfl⟩))
    (fun os started H enc _ => rationalMatchesReference_lifted os started H enc)

set_option maxRecDepth 100000 in
/-- The tied card. -/
theorem rationalMatchesReference_holds : Rows.RationalMatchesReferenceCardSaid :=
  Claim7.holds_tied_plain_at .later [] [.data, .data, .data] true Rows.rationalMatchesReferenceCard.stood.harness false
    rationalMatchesReference_row (fun _ h => by cases h) (by kernel_rfl) (fun _ h => by cases h) rationalMatchesReference_row_tie rfl ⟨rfl, rfl⟩ (by kernel_rfl) rfl
    (fun f fn hf hfn => by
      obtain rfl : f = 8 := Option.some.inj ((show Tryz.prog.funcNamed "algorist/algoristlaw02.RationalMatchesReference" = some 8 by kernel_rfl).symm.trans hf) |>.symm
      obtain rfl : fn = Tryz.f8 := (Option.some.inj (Tryz.func8.symm.trans hfn)).symm
      refine ⟨by kernel_rfl, fun j t ht => ?_⟩
      rw [Tryz.params8] at ht
      have h3 : t = 26 := by
        rcases j with _ | _ | j
        · simpa using ht.symm
        · simpa using ht.symm
        · simp at ht
      subst h3
      exact (show Tryz.prog.wantsStandIn 26 = false by kernel_rfl))
    (by kernel_rfl)
#print axioms rationalMatchesReference_holds
end Go.Proofs.YtcgdkfadcglekaaGreatDoor
