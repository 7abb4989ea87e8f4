/-
  The fixed calls of the laws of package rational. (Printed by wip/gen/rat10.py.)
-/
import Derived.Test.YtcgdkfadcglekaaGreatDoorQ7
import Derived.Test.YtcgdkfadcglekaaGreatDoorQ8
namespace Go.Proofs.YtcgdkfadcglekaaGreatDoor
open Go Go.RowKit

theorem ex_m3 : encS (textS (-3)) = .string ⟨#[45, 51]⟩ ∧ textE (-3) = 0 := ⟨by rw [show textS (-3) = [45, 51] by decide +kernel]; rfl, by decide +kernel⟩
theorem ex_2 : encS (textS 2) = .string ⟨#[50]⟩ ∧ textE 2 = 0 := ⟨by rw [show textS 2 = [50] by decide +kernel]; rfl, by decide +kernel⟩
theorem ex_cat : (⟨#[45, 51]⟩ ++ (⟨#[47]⟩ : ByteArray) ++ ⟨#[50]⟩ : ByteArray) = ⟨#[45, 51, 47, 50]⟩ := by decide +kernel
theorem ex_par : rparN (⟨#[50, 47, 52]⟩ : ByteArray).data.toList = 0 ∧ rparD (⟨#[50, 47, 52]⟩ : ByteArray).data.toList = 0 ∧ rparE (⟨#[50, 47, 52]⟩ : ByteArray).data.toList = 3 := by decide +kernel

set_option maxRecDepth 100000 in
set_option maxHeartbeats 8000000 in
theorem examplesQ_f (w : World) (ht : Tab w) : Calls Tryz.prog 12 #[] w (Ret w (IsV (.bool true))) := by
  obtain ⟨W, hW, S⟩ : ∃ W, W = w ∧ Sto w W [] := ⟨_, rfl, (Sto.start w)⟩
  go_enter Tryz.func12, Tryz.ntmps12
  go_upto_region 1 with (fail)
  rw [← hW]
  clear hW
  have hl := hid S.lt; have hw := S.ext.size
  refine rgs 4 [some 17, some 18, some 1, some 2] [IsQ (IsI 2 ((Rat.divInt (1) 2).num)) (IsI 2 (((Rat.divInt (1) 2).den : Int))), IsQ (IsI 2 ((Rat.divInt (1) 3).num)) (IsI 2 (((Rat.divInt (1) 3).den : Int))), IsBo W 2, IsBo W 2] [2, 3] ?_ ?_
  · refine Rc (cl2 (en Tryz.func27) Od.con Od.con (fun x0 x1 w' hE d0 d1 => by { obtain rfl : x0 = .int .i64 1 := d0; obtain rfl : x1 = .int .i64 2 := d1; exact rqOf_f w' (1) 2 (by decide) (by decide) (by decide) })) ?_
    refine Rc (cl2 (en Tryz.func27) Od.con Od.con (fun x0 x1 w' hE d0 d1 => by { obtain rfl : x0 = .int .i64 1 := d0; obtain rfl : x1 = .int .i64 3 := d1; exact rqOf_f w' (1) 3 (by decide) (by decide) (by decide) })) ?_
    refine Rc (al al_Rat) ?_
    refine Rc (al al_Rat) ?_
    exact RgAll.nil
  intro v W1 e1 hΦ hne
  replace S := S.mono e1
  have h17 := hΦ 0 (by decide)
  have h18 := hΦ 1 (by decide)
  obtain ⟨g1, v2, q2, b1, _⟩ := (hΦ 2 (by decide) : IsBo W 2 (v 2) W1)
  replace S := S.addN 2 (ApartO.old hl.out q2) (Nat.le_trans hw q2) b1
  obtain ⟨g2, v3, q4, b3, _⟩ := (hΦ 3 (by decide) : IsBo W 2 (v 3) W1)
  replace S := S.addN 2 (ApartO.cons (fun h => hne 2 3 (by decide) (by decide) (by decide) (by decide) (by decide) (by rw [v2, v3, h])) (ApartO.cons (fun h => hne 2 3 (by decide) (by decide) (by decide) (by decide) (by decide) (by rw [v2, v3, h])) (ApartO.old hl.out q4))) (Nat.le_trans hw q4) b3
  simp only [newF, List.cons_append, List.nil_append] at S
  simp only [layL, Act.put, List.setIfInBounds_toArray, List.set_cons_zero, List.set_cons_succ, Nat.reduceAdd]
  rw [v2, v3]
  clear b1 b3 hl hw hne v2 v3 hΦ e1
  try simp only [List.drop_succ_cons, List.drop_zero]
  (with_reducible refine stL ?_ (by rfl)); intro KK hKK; refine stQ S 3 2 (g1) 0 h17 (IsI.gstb _ _) (IsI.gstb _ _) st_Rat (fun W2 S2 G2 => hKK _ _ ?_) rfl rfl
  replace h18 := (IsQ.gstb (IsI.gstb _ _) (IsI.gstb _ _)) _ _ _ G2 h18
  replace S := S2; clear S2 G2 hKK KK h17
  simp only [List.set_cons_zero, List.set_cons_succ] at S
  try simp only [List.drop_succ_cons, List.drop_zero]
  (with_reducible refine stL ?_ (by rfl)); intro KK hKK; refine stQ S 1 0 (g2) 0 h18 (IsI.gstb _ _) (IsI.gstb _ _) st_Rat (fun W3 S2 G2 => hKK _ _ ?_) rfl rfl
  replace S := S2; clear S2 G2 hKK KK h18
  simp only [List.set_cons_zero, List.set_cons_succ] at S
  refine wpList_nil ?_
  go_upto_region 2 with (fail)
  have hl := hid S.lt; have hw := S.ext.size
  refine rgs 7 [some 20, some 21, some 22, some 19, some 23, some 24, some 3] [IsI 2 ((-6)), IsI 2 4, IsT2 (IsQ (IsI 4 ((Rat.divInt (-6) 4).num)) (IsI 4 (((Rat.divInt (-6) 4).den : Int)))) (IsV (.int .i64 0)), IsT2 (IsQ (IsI 4 ((Rat.divInt (-6) 4).num)) (IsI 4 (((Rat.divInt (-6) 4).den : Int)))) (IsV (.int .i64 0)), IsQ (IsI 4 ((Rat.divInt (-6) 4).num)) (IsI 4 (((Rat.divInt (-6) 4).den : Int))), IsV (.int .i64 0), IsBo W3 2] [6] ?_ ?_
  · refine Rc (cl1 (en Tryz.func24) Od.con (fun x0 w' hE d0 => by { obtain rfl : x0 = .int .i64 (-6) := d0; exact ROf_f _ ((-6)) (by decide) (by decide) })) ?_
    refine Rc (cl1 (en Tryz.func24) Od.con (fun x0 w' hE d0 => by { obtain rfl : x0 = .int .i64 4 := d0; exact ROf_f _ 4 (by decide) (by decide) })) ?_
    refine Rc (cl2 (en Tryz.func30) (Od.lc (Φ := IsI 2 ((-6))) 0 20) (Od.lc (Φ := IsI 2 4) 1 21) (fun x0 x1 w' hE d0 d1 => qNew_f d0 d1 (by decide) (by decide) (by decide))) ?_
    refine Rc (mv (Od.lc 2 22)) ?_
    refine Rc (ex (Od.loc 3 19) t20) ?_
    refine Rc (ex (Od.loc 3 19) t21) ?_
    refine Rc (al al_Rat) ?_
    exact RgAll.nil
  intro v W4 e1 hΦ _
  replace S := S.mono e1
  have h23 := hΦ 4 (by decide)
  have v5 : v 5 = .int .i64 0 := hΦ 5 (by decide)
  obtain ⟨g3, v6, q6, b5, _⟩ := (hΦ 6 (by decide) : IsBo W3 2 (v 6) W4)
  replace S := S.addN 2 (ApartO.old hl.out q6) (Nat.le_trans hw q6) b5
  simp only [newF, List.cons_append, List.nil_append] at S
  simp only [layL, Act.put, List.setIfInBounds_toArray, List.set_cons_zero, List.set_cons_succ, Nat.reduceAdd]
  rw [v5, v6]
  clear b5 hl hw v5 v6 hΦ e1
  try simp only [List.drop_succ_cons, List.drop_zero]
  (with_reducible refine stL ?_ (by rfl)); intro KK hKK; refine stQ S 1 0 (g3) 0 h23 (IsI.gstb _ _) (IsI.gstb _ _) st_Rat (fun W5 S2 G2 => hKK _ _ ?_) rfl rfl
  replace S := S2; clear S2 G2 hKK KK h23
  simp only [List.set_cons_zero, List.set_cons_succ] at S
  refine wpList_step fun K hK => ?_; go_simp; refine hK _ _ ?_; clear hK K
  refine wpList_nil ?_
  go_upto_region 3 with (fail)
  have hl := hid S.lt; have hw := S.ext.size
  refine rgs 7 [some 26, some 27, some 28, some 25, some 29, some 30, some 5] [IsI 2 1, IsI 2 0, IsT2 (IsQ (IsI 0 0) (IsI 0 0)) (IsV (.int .i64 4)), IsT2 (IsQ (IsI 0 0) (IsI 0 0)) (IsV (.int .i64 4)), IsQ (IsI 0 0) (IsI 0 0), IsV (.int .i64 4), IsBo W5 2] [6] ?_ ?_
  · refine Rc (cl1 (en Tryz.func24) Od.con (fun x0 w' hE d0 => by { obtain rfl : x0 = .int .i64 1 := d0; exact ROf_f _ 1 (by decide) (by decide) })) ?_
    refine Rc (cl1 (en Tryz.func24) Od.con (fun x0 w' hE d0 => by { obtain rfl : x0 = .int .i64 0 := d0; exact ROf_f _ 0 (by decide) (by decide) })) ?_
    refine Rc (cl2 (en Tryz.func30) (Od.lc (Φ := IsI 2 1) 0 26) (Od.lc (Φ := IsI 2 0) 1 27) (fun x0 x1 w' hE d0 d1 => qNew0_f d0 d1 rfl)) ?_
    refine Rc (mv (Od.lc 2 28)) ?_
    refine Rc (ex (Od.loc 3 25) t20) ?_
    refine Rc (ex (Od.loc 3 25) t21) ?_
    refine Rc (al al_Rat) ?_
    exact RgAll.nil
  intro v W6 e1 hΦ _
  replace S := S.mono e1
  have h29 := hΦ 4 (by decide)
  have v5 : v 5 = .int .i64 4 := hΦ 5 (by decide)
  obtain ⟨g5, v6, q8, b7, _⟩ := (hΦ 6 (by decide) : IsBo W5 2 (v 6) W6)
  replace S := S.addN 2 (ApartO.old hl.out q8) (Nat.le_trans hw q8) b7
  simp only [newF, List.cons_append, List.nil_append] at S
  simp only [layL, Act.put, List.setIfInBounds_toArray, List.set_cons_zero, List.set_cons_succ, Nat.reduceAdd]
  rw [v5, v6]
  clear b7 hl hw v5 v6 hΦ e1
  try simp only [List.drop_succ_cons, List.drop_zero]
  (with_reducible refine stL ?_ (by rfl)); intro KK hKK; refine stQ S 1 0 (g5) 0 h29 (IsI.gstb _ _) (IsI.gstb _ _) st_Rat (fun W7 S2 G2 => hKK _ _ ?_) rfl rfl
  replace S := S2; clear S2 G2 hKK KK h29
  simp only [List.set_cons_zero, List.set_cons_succ] at S
  refine wpList_step fun K hK => ?_; go_simp; refine hK _ _ ?_; clear hK K
  refine wpList_nil ?_
  go_upto_region 4 with (fail)
  refine rgs 7 [some 32, some 33, some 31, some 34, some 35, some 7, some 8] [IsQ (IsI 4 ((Rat.divInt (-6) 4).num)) (IsI 4 (((Rat.divInt (-6) 4).den : Int))), IsT2 (IsV (.string ⟨#[45, 51, 47, 50]⟩)) (IsV (.int .i64 0)), IsT2 (IsV (.string ⟨#[45, 51, 47, 50]⟩)) (IsV (.int .i64 0)), IsV (.string ⟨#[45, 51, 47, 50]⟩), IsV (.int .i64 0), IsV (.string ⟨#[45, 51, 47, 50]⟩), IsV (.int .i64 0)] [] ?_ ?_
  · refine Rc (ldQ S 3 2 (g3) 0 (Od.lit 3) ld_Rat rfl rfl) ?_
    refine Rc (cl1 (en Tryz.func14) (Od.lc (Φ := IsQ (IsI 4 ((Rat.divInt (-6) 4).num)) (IsI 4 (((Rat.divInt (-6) 4).den : Int)))) 0 32) (fun x0 w' hE d0 => (by have hh := qText_n (n := -3) (d := 2) (d0.eqz (by decide +kernel) (by decide +kernel)) (by decide) (ht.ext (S.ext.trans hE)) _ _ ex_m3 ex_2 (by decide +kernel) (by decide); rw [ex_cat] at hh; exact hh))) ?_
    refine Rc (mv (Od.lc 1 33)) ?_
    refine Rc (ex (Od.loc 2 31) t20) ?_
    refine Rc (ex (Od.loc 2 31) t21) ?_
    refine Rc (mv (Od.lc 3 34)) ?_
    refine Rc (mv (Od.lc 4 35)) ?_
    exact RgAll.nil
  intro v W8 e1 hΦ _
  replace S := S.mono e1
  have v5 : v 5 = .string ⟨#[45, 51, 47, 50]⟩ := hΦ 5 (by decide)
  have v6 : v 6 = .int .i64 0 := hΦ 6 (by decide)
  simp only [layL, Act.put, List.setIfInBounds_toArray, List.set_cons_zero, List.set_cons_succ, Nat.reduceAdd]
  rw [v5, v6]
  clear v5 v6 hΦ e1
  refine wpList_nil ?_
  go_upto_region 5 with (fail)
  have hl := hid S.lt; have hw := S.ext.size
  refine rgn 9 [some 37, some 38, some 39, some 36, some 40, some 41, some 9, none, some 10] [IsQ (IsI 2 ((Rat.divInt (1) 3).num)) (IsI 2 (((Rat.divInt (1) 3).den : Int))), IsQ (IsI 2 ((Rat.divInt (2) 5).num)) (IsI 2 (((Rat.divInt (2) 5).den : Int))), IsT2 (IsQ (IsI 2 ((btwQ (Rat.divInt (1) 3) (Rat.divInt (2) 5)).num)) (IsI 2 (((btwQ (Rat.divInt (1) 3) (Rat.divInt (2) 5)).den : Int)))) (IsV (.int .i64 0)), IsT2 (IsQ (IsI 2 ((btwQ (Rat.divInt (1) 3) (Rat.divInt (2) 5)).num)) (IsI 2 (((btwQ (Rat.divInt (1) 3) (Rat.divInt (2) 5)).den : Int)))) (IsV (.int .i64 0)), IsQ (IsI 2 ((btwQ (Rat.divInt (1) 3) (Rat.divInt (2) 5)).num)) (IsI 2 (((btwQ (Rat.divInt (1) 3) (Rat.divInt (2) 5)).den : Int))), IsV (.int .i64 0), IsNw W8 2, TT, IsV (.int .i64 0)] [6] [none, none, none, none, none, none, none, some (6, [IsI 2 ((btwQ (Rat.divInt (1) 3) (Rat.divInt (2) 5)).num), IsI 2 (((btwQ (Rat.divInt (1) 3) (Rat.divInt (2) 5)).den : Int))]), none] [none, none, none, none, none, none, none, some 6, none] 0 ?_ ?_
  · refine RcK (ldQ S 5 4 (g2) 0 (Od.lit 2) ld_Rat rfl rfl) ?_
    refine RcK (cl2 (en Tryz.func27) Od.con Od.con (fun x0 x1 w' hE d0 d1 => by { obtain rfl : x0 = .int .i64 2 := d0; obtain rfl : x1 = .int .i64 5 := d1; exact rqOf_f w' (2) 5 (by decide) (by decide) (by decide) })) ?_
    refine RcK (cl2 (en Tryz.func19) (Od.lc (Φ := IsQ (IsI 2 ((Rat.divInt (1) 3).num)) (IsI 2 (((Rat.divInt (1) 3).den : Int)))) 0 37) (Od.lc (Φ := IsQ (IsI 2 ((Rat.divInt (2) 5).num)) (IsI 2 (((Rat.divInt (2) 5).den : Int)))) 1 38) (fun x0 x1 w' hE d0 d1 => qBetween_f d0 d1 (by decide) (by decide) (by decide +kernel))) ?_
    refine RcK (mv (Od.lc 2 39)) ?_
    refine RcK (ex (Od.loc 3 36) t20) ?_
    refine RcK (ex (Od.loc 3 36) t21) ?_
    refine RcK (alN al_Rat) ?_
    refine RcS 6 (sQ st_Rat (Od.lc (Φ := IsQ (IsI 2 ((btwQ (Rat.divInt (1) 3) (Rat.divInt (2) 5)).num)) (IsI 2 (((btwQ (Rat.divInt (1) 3) (Rat.divInt (2) 5)).den : Int)))) 4 40) (IsI.gstb _ _) (IsI.gstb _ _)) ?_
    refine RcK (mv (Od.lc 5 41)) ?_
    exact RgAllN.nil
  intro v W9 e1 hΦ hS _
  replace S := S.mono e1
  obtain ⟨g9, v6, q9, S2⟩ := S.addQ (hΦ 6 (by decide) rfl) (hS 7 (by decide) _ _ rfl) hw (IsI.gstb _ _) (IsI.gstb _ _)
  replace S := S2 (ApartO.old hl.out q9); clear S2
  have v8 : v 8 = .int .i64 0 := hΦ 8 (by decide) rfl
  simp only [layL, Act.put, List.setIfInBounds_toArray, List.set_cons_zero, List.set_cons_succ, Nat.reduceAdd]
  rw [v6, v8]
  clear hl hw v6 v8 hΦ hS e1
  refine wpAny_done (by kernel_rfl) ?_ _
  go_upto_region 6 with (fail)
  have hl := hid S.lt; have hw := S.ext.size
  refine rgs 7 [some 43, some 44, some 45, some 42, some 46, some 47, some 11] [IsQ (IsI 2 ((Rat.divInt (17) 50).num)) (IsI 2 (((Rat.divInt (17) 50).den : Int))), IsQ (IsI 2 ((Rat.divInt (9) 25).num)) (IsI 2 (((Rat.divInt (9) 25).den : Int))), IsT2 (IsQ (IsI 2 ((btwQ (Rat.divInt (17) 50) (Rat.divInt (9) 25)).num)) (IsI 2 (((btwQ (Rat.divInt (17) 50) (Rat.divInt (9) 25)).den : Int)))) (IsV (.int .i64 0)), IsT2 (IsQ (IsI 2 ((btwQ (Rat.divInt (17) 50) (Rat.divInt (9) 25)).num)) (IsI 2 (((btwQ (Rat.divInt (17) 50) (Rat.divInt (9) 25)).den : Int)))) (IsV (.int .i64 0)), IsQ (IsI 2 ((btwQ (Rat.divInt (17) 50) (Rat.divInt (9) 25)).num)) (IsI 2 (((btwQ (Rat.divInt (17) 50) (Rat.divInt (9) 25)).den : Int))), IsV (.int .i64 0), IsBo W9 2] [6] ?_ ?_
  · refine Rc (cl2 (en Tryz.func27) Od.con Od.con (fun x0 x1 w' hE d0 d1 => by { obtain rfl : x0 = .int .i64 17 := d0; obtain rfl : x1 = .int .i64 50 := d1; exact rqOf_f w' (17) 50 (by decide) (by decide) (by decide) })) ?_
    refine Rc (cl2 (en Tryz.func27) Od.con Od.con (fun x0 x1 w' hE d0 d1 => by { obtain rfl : x0 = .int .i64 9 := d0; obtain rfl : x1 = .int .i64 25 := d1; exact rqOf_f w' (9) 25 (by decide) (by decide) (by decide) })) ?_
    refine Rc (cl2 (en Tryz.func19) (Od.lc (Φ := IsQ (IsI 2 ((Rat.divInt (17) 50).num)) (IsI 2 (((Rat.divInt (17) 50).den : Int)))) 0 43) (Od.lc (Φ := IsQ (IsI 2 ((Rat.divInt (9) 25).num)) (IsI 2 (((Rat.divInt (9) 25).den : Int)))) 1 44) (fun x0 x1 w' hE d0 d1 => qBetween_f d0 d1 (by decide) (by decide) (by decide +kernel))) ?_
    refine Rc (mv (Od.lc 2 45)) ?_
    refine Rc (ex (Od.loc 3 42) t20) ?_
    refine Rc (ex (Od.loc 3 42) t21) ?_
    refine Rc (al al_Rat) ?_
    exact RgAll.nil
  intro v W10 e1 hΦ _
  replace S := S.mono e1
  have h46 := hΦ 4 (by decide)
  have v5 : v 5 = .int .i64 0 := hΦ 5 (by decide)
  obtain ⟨g11, v6, q11, b10, _⟩ := (hΦ 6 (by decide) : IsBo W9 2 (v 6) W10)
  replace S := S.addN 2 (ApartO.old hl.out q11) (Nat.le_trans hw q11) b10
  simp only [newF, List.cons_append, List.nil_append] at S
  simp only [layL, Act.put, List.setIfInBounds_toArray, List.set_cons_zero, List.set_cons_succ, Nat.reduceAdd]
  rw [v5, v6]
  clear b10 hl hw v5 v6 hΦ e1
  try simp only [List.drop_succ_cons, List.drop_zero]
  (with_reducible refine stL ?_ (by rfl)); intro KK hKK; refine stQ S 1 0 (g11) 0 h46 (IsI.gstb _ _) (IsI.gstb _ _) st_Rat (fun W11 S2 G2 => hKK _ _ ?_) rfl rfl
  replace S := S2; clear S2 G2 hKK KK h46
  simp only [List.set_cons_zero, List.set_cons_succ] at S
  refine wpList_step fun K hK => ?_; go_simp; refine hK _ _ ?_; clear hK K
  refine wpList_nil ?_
  go_upto_region 7 with (fail)
  have hl := hid S.lt; have hw := S.ext.size
  refine rgs 7 [some 49, some 50, some 51, some 48, some 52, some 53, some 13] [IsQ (IsI 2 ((Rat.divInt (1) 2).num)) (IsI 2 (((Rat.divInt (1) 2).den : Int))), IsQ (IsI 2 ((Rat.divInt (1) 3).num)) (IsI 2 (((Rat.divInt (1) 3).den : Int))), IsT2 (IsQ (IsI 0 0) (IsI 0 0)) (IsV (.int .i64 1)), IsT2 (IsQ (IsI 0 0) (IsI 0 0)) (IsV (.int .i64 1)), IsQ (IsI 0 0) (IsI 0 0), IsV (.int .i64 1), IsBo W11 2] [6] ?_ ?_
  · refine Rc (ldQ S 11 10 (g1) 0 (Od.lit 1) ld_Rat rfl rfl) ?_
    refine Rc (ldQ S 9 8 (g2) 0 (Od.lit 2) ld_Rat rfl rfl) ?_
    refine Rc (cl2 (en Tryz.func19) (Od.lc (Φ := IsQ (IsI 2 ((Rat.divInt (1) 2).num)) (IsI 2 (((Rat.divInt (1) 2).den : Int)))) 0 49) (Od.lc (Φ := IsQ (IsI 2 ((Rat.divInt (1) 3).num)) (IsI 2 (((Rat.divInt (1) 3).den : Int)))) 1 50) (fun x0 x1 w' hE d0 d1 => qBetweenE_f d0 d1 (by decide) (by decide +kernel))) ?_
    refine Rc (mv (Od.lc 2 51)) ?_
    refine Rc (ex (Od.loc 3 48) t20) ?_
    refine Rc (ex (Od.loc 3 48) t21) ?_
    refine Rc (al al_Rat) ?_
    exact RgAll.nil
  intro v W12 e1 hΦ _
  replace S := S.mono e1
  have h52 := hΦ 4 (by decide)
  have v5 : v 5 = .int .i64 1 := hΦ 5 (by decide)
  obtain ⟨g13, v6, q13, b12, _⟩ := (hΦ 6 (by decide) : IsBo W11 2 (v 6) W12)
  replace S := S.addN 2 (ApartO.old hl.out q13) (Nat.le_trans hw q13) b12
  simp only [newF, List.cons_append, List.nil_append] at S
  simp only [layL, Act.put, List.setIfInBounds_toArray, List.set_cons_zero, List.set_cons_succ, Nat.reduceAdd]
  rw [v5, v6]
  clear b12 hl hw v5 v6 hΦ e1
  try simp only [List.drop_succ_cons, List.drop_zero]
  (with_reducible refine stL ?_ (by rfl)); intro KK hKK; refine stQ S 1 0 (g13) 0 h52 (IsI.gstb _ _) (IsI.gstb _ _) st_Rat (fun W13 S2 G2 => hKK _ _ ?_) rfl rfl
  replace S := S2; clear S2 G2 hKK KK h52
  simp only [List.set_cons_zero, List.set_cons_succ] at S
  refine wpList_step fun K hK => ?_; go_simp; refine hK _ _ ?_; clear hK K
  refine wpList_nil ?_
  go_upto_region 8 with (fail)
  have hl := hid S.lt; have hw := S.ext.size
  refine rgs 5 [some 55, some 54, some 56, some 57, some 15] [IsT2 (IsQ (IsI 136 0) (IsI 136 0)) (IsV (.int .i64 3)), IsT2 (IsQ (IsI 136 0) (IsI 136 0)) (IsV (.int .i64 3)), IsQ (IsI 136 0) (IsI 136 0), IsV (.int .i64 3), IsBo W13 2] [4] ?_ ?_
  · refine Rc (cl1 (en Tryz.func16) Od.con (fun x0 w' hE d0 => by { obtain rfl : x0 = .string ⟨#[50, 47, 52]⟩ := d0; exact (by have hh := qParse_f w' ⟨#[50, 47, 52]⟩; rw [ex_par.1, ex_par.2.1, ex_par.2.2] at hh; exact hh) })) ?_
    refine Rc (mv (Od.lc 0 55)) ?_
    refine Rc (ex (Od.loc 1 54) t20) ?_
    refine Rc (ex (Od.loc 1 54) t21) ?_
    refine Rc (al al_Rat) ?_
    exact RgAll.nil
  intro v W14 e1 hΦ _
  replace S := S.mono e1
  have h56 := hΦ 2 (by decide)
  have v3 : v 3 = .int .i64 3 := hΦ 3 (by decide)
  obtain ⟨g15, v4, q15, b14, _⟩ := (hΦ 4 (by decide) : IsBo W13 2 (v 4) W14)
  replace S := S.addN 2 (ApartO.old hl.out q15) (Nat.le_trans hw q15) b14
  simp only [newF, List.cons_append, List.nil_append] at S
  simp only [layL, Act.put, List.setIfInBounds_toArray, List.set_cons_zero, List.set_cons_succ, Nat.reduceAdd]
  rw [v3, v4]
  clear b14 hl hw v3 v4 hΦ e1
  try simp only [List.drop_succ_cons, List.drop_zero]
  (with_reducible refine stL ?_ (by rfl)); intro KK hKK; refine stQ S 1 0 (g15) 0 h56 (IsI.gstb _ _) (IsI.gstb _ _) st_Rat (fun W15 S2 G2 => hKK _ _ ?_) rfl rfl
  replace S := S2; clear S2 G2 hKK KK h56
  simp only [List.set_cons_zero, List.set_cons_succ] at S
  refine wpList_step fun K hK => ?_; go_simp; refine hK _ _ ?_; clear hK K
  refine wpList_nil ?_
  go_upto_region 9 with (fail)
  refine rgs 30 [some 58, some 59, some 60, some 61, some 62, some 63, some 64, some 65, some 66, some 67, some 68, some 69, some 70, some 71, some 72, some 73, some 74, some 75, some 76, some 77, some 78, some 79, some 80, some 81, some 82, some 83, some 84, some 85, some 86, some 87] [IsV (.int .i64 0), IsV (.bool false), IsV (.bool false), IsV (.int .i64 4), IsV (.bool false), IsV (.bool false), IsV (.bool false), IsV (.int .i64 0), IsV (.bool false), IsV (.bool false), IsV (.bool false), IsV (.int .i64 0), IsV (.bool false), IsV (.bool false), IsV (.bool false), IsV (.int .i64 0), IsV (.bool false), IsV (.bool false), IsV (.bool false), IsV (.int .i64 1), IsV (.bool false), IsV (.bool false), IsV (.bool false), IsV (.int .i64 3), IsV (.bool false), IsV (.bool false), IsV (.bool false), IsV (.string ⟨#[45, 51, 47, 50]⟩), IsV (.bool false), IsV (.bool false)] [] ?_ ?_
  · refine Rc (mv (Od.lit 4)) ?_
    refine Rc (bn (r := .bool false) (Od.loc 0 58) Od.con (hr := fun w => by go_simp)) ?_
    refine Rc (mv (Od.lc 1 59)) ?_
    refine RcG 2 60 false (mv (Od.lit 6)) ?_
    refine RcG 2 60 false (bn (r := .bool false) (Od.loc 3 61) Od.con (hr := fun w => by go_simp)) ?_
    refine Rc (pk (Od.loc 2 60) (Od.lc 4 62)) ?_
    refine Rc (mv (Od.lc 5 63)) ?_
    refine RcG 6 64 false (mv (Od.lit 8)) ?_
    refine RcG 6 64 false (bn (r := .bool false) (Od.loc 7 65) Od.con (hr := fun w => by go_simp)) ?_
    refine Rc (pk (Od.loc 6 64) (Od.lc 8 66)) ?_
    refine Rc (mv (Od.lc 9 67)) ?_
    refine RcG 10 68 false (mv (Od.lit 10)) ?_
    refine RcG 10 68 false (bn (r := .bool false) (Od.loc 11 69) Od.con (hr := fun w => by go_simp)) ?_
    refine Rc (pk (Od.loc 10 68) (Od.lc 12 70)) ?_
    refine Rc (mv (Od.lc 13 71)) ?_
    refine RcG 14 72 false (mv (Od.lit 12)) ?_
    refine RcG 14 72 false (bn (r := .bool false) (Od.loc 15 73) Od.con (hr := fun w => by go_simp)) ?_
    refine Rc (pk (Od.loc 14 72) (Od.lc 16 74)) ?_
    refine Rc (mv (Od.lc 17 75)) ?_
    refine RcG 18 76 false (mv (Od.lit 14)) ?_
    refine RcG 18 76 false (bn (r := .bool false) (Od.loc 19 77) Od.con (hr := fun w => by go_simp)) ?_
    refine Rc (pk (Od.loc 18 76) (Od.lc 20 78)) ?_
    refine Rc (mv (Od.lc 21 79)) ?_
    refine RcG 22 80 false (mv (Od.lit 16)) ?_
    refine RcG 22 80 false (bn (r := .bool false) (Od.loc 23 81) Od.con (hr := fun w => by go_simp)) ?_
    refine Rc (pk (Od.loc 22 80) (Od.lc 24 82)) ?_
    refine Rc (mv (Od.lc 25 83)) ?_
    refine RcG 26 84 false (mv (Od.lit 7)) ?_
    refine RcG 26 84 false (bn (r := .bool false) (Od.loc 27 85) Od.con (hr := fun w => by go_simp)) ?_
    refine Rc (pk (Od.loc 26 84) (Od.lc 28 86)) ?_
    exact RgAll.nil
  intro v W16 e1 hΦ _
  replace S := S.mono e1
  have v29 : v 29 = .bool false := hΦ 29 (by decide)
  simp only [layL, Act.put, List.setIfInBounds_toArray, List.set_cons_zero, List.set_cons_succ, Nat.reduceAdd]
  rw [v29]
  clear v29 hΦ e1
  refine wpList_nil ?_
  go_upto_region 11 with (fail)
  refine rg 36 [some 88, some 89, some 90, some 91, some 92, some 93, some 94, some 95, some 96, some 97, some 98, some 99, some 100, some 101, some 102, some 103, some 104, some 105, some 106, some 107, some 108, some 109, some 110, some 111, some 112, some 113, some 114, some 115, some 116, some 117, some 118, some 119, some 120, some 121, some 122, some 0] [IsQ (IsI 4 ((Rat.divInt (-6) 4).num)) (IsI 4 (((Rat.divInt (-6) 4).den : Int))), IsQ (IsI 2 ((Rat.divInt (-3) 2).num)) (IsI 2 (((Rat.divInt (-3) 2).den : Int))), IsV (.bool true), IsV (.bool true), IsQ (IsI 2 ((Rat.divInt (1) 2).num)) (IsI 2 (((Rat.divInt (1) 2).den : Int))), IsQ (IsI 2 ((Rat.divInt (1) 3).num)) (IsI 2 (((Rat.divInt (1) 3).den : Int))), IsQ (IsI 5 ((Rat.divInt (1) 2 + Rat.divInt (1) 3).num)) (IsI 5 (((Rat.divInt (1) 2 + Rat.divInt (1) 3).den : Int))), IsQ (IsI 2 ((Rat.divInt (5) 6).num)) (IsI 2 (((Rat.divInt (5) 6).den : Int))), IsV (.bool true), IsV (.bool true), IsV (.bool true), IsQ (IsI 2 ((btwQ (Rat.divInt (1) 3) (Rat.divInt (2) 5)).num)) (IsI 2 (((btwQ (Rat.divInt (1) 3) (Rat.divInt (2) 5)).den : Int))), IsQ (IsI 2 ((Rat.divInt (1) 3).num)) (IsI 2 (((Rat.divInt (1) 3).den : Int))), IsV (.bool true), IsV (.bool true), IsV (.bool true), IsQ (IsI 2 ((btwQ (Rat.divInt (17) 50) (Rat.divInt (9) 25)).num)) (IsI 2 (((btwQ (Rat.divInt (17) 50) (Rat.divInt (9) 25)).den : Int))), IsQ (IsI 2 ((Rat.divInt (5) 14).num)) (IsI 2 (((Rat.divInt (5) 14).den : Int))), IsV (.bool true), IsV (.bool true), IsV (.bool true), IsQ (IsI 2 ((Rat.divInt (-1) 2).num)) (IsI 2 (((Rat.divInt (-1) 2).den : Int))), IsI 2 ((Rat.divInt (-1) 2).floor), IsI 2 ((-1)), IsV (.bool true), IsV (.bool true), IsV (.bool true), IsQ (IsI 2 ((Rat.divInt (1) 2).num)) (IsI 2 (((Rat.divInt (1) 2).den : Int))), IsV (.bool true), IsV (.bool true), IsV (.bool true), IsQ (IsI 0 0) (IsI 0 0), IsV (.bool false), IsV (.bool true), IsV (.bool true), IsV (.bool true)] [] 0 ?_ ?_
  · refine Rc (ldQ S 11 10 (g3) 0 (Od.lit 3) ld_Rat rfl rfl) ?_
    refine Rc (cl2 (en Tryz.func27) Od.con Od.con (fun x0 x1 w' hE d0 d1 => by { obtain rfl : x0 = .int .i64 (-3) := d0; obtain rfl : x1 = .int .i64 2 := d1; exact rqOf_f w' (-3) 2 (by decide) (by decide) (by decide) })) ?_
    refine Rc (cl2 (en Tryz.func18) (Od.lc (Φ := IsQ (IsI 4 ((Rat.divInt (-6) 4).num)) (IsI 4 (((Rat.divInt (-6) 4).den : Int)))) 0 88) (Od.lc (Φ := IsQ (IsI 2 ((Rat.divInt (-3) 2).num)) (IsI 2 (((Rat.divInt (-3) 2).den : Int)))) 1 89) (fun x0 x1 w' hE d0 d1 => rqSame_eq d0 d1 (by decide) (by decide +kernel))) ?_
    refine Rc (mv (Od.lc 2 90)) ?_
    refine RcG 3 91 true (ldQ S 15 14 (g1) 0 (Od.lit 1) ld_Rat rfl rfl) ?_
    refine RcG 3 91 true (ldQ S 13 12 (g2) 0 (Od.lit 2) ld_Rat rfl rfl) ?_
    refine RcG 3 91 true (cl2 (en Tryz.func37) (Od.lc (Φ := IsQ (IsI 2 ((Rat.divInt (1) 2).num)) (IsI 2 (((Rat.divInt (1) 2).den : Int)))) 4 92) (Od.lc (Φ := IsQ (IsI 2 ((Rat.divInt (1) 3).num)) (IsI 2 (((Rat.divInt (1) 3).den : Int)))) 5 93) (fun x0 x1 w' hE d0 d1 => qAdd_f d0 d1 (by decide) (by decide))) ?_
    refine RcG 3 91 true (cl2 (en Tryz.func27) Od.con Od.con (fun x0 x1 w' hE d0 d1 => by { obtain rfl : x0 = .int .i64 5 := d0; obtain rfl : x1 = .int .i64 6 := d1; exact rqOf_f w' (5) 6 (by decide) (by decide) (by decide) })) ?_
    refine RcG 3 91 true (cl2 (en Tryz.func18) (Od.lc (Φ := IsQ (IsI 5 ((Rat.divInt (1) 2 + Rat.divInt (1) 3).num)) (IsI 5 (((Rat.divInt (1) 2 + Rat.divInt (1) 3).den : Int)))) 6 94) (Od.lc (Φ := IsQ (IsI 2 ((Rat.divInt (5) 6).num)) (IsI 2 (((Rat.divInt (5) 6).den : Int)))) 7 95) (fun x0 x1 w' hE d0 d1 => rqSame_eq d0 d1 (by decide) (by decide +kernel))) ?_
    refine Rc (pk (Od.loc 3 91) (Od.lc 8 96)) ?_
    refine Rc (mv (Od.lc 9 97)) ?_
    refine RcG 10 98 true (ldQ S 7 6 (g9) 0 (Od.lit 9) ld_Rat rfl rfl) ?_
    refine RcG 10 98 true (ldQ S 13 12 (g2) 0 (Od.lit 2) ld_Rat rfl rfl) ?_
    refine RcG 10 98 true (cl2 (en Tryz.func18) (Od.lc (Φ := IsQ (IsI 2 ((btwQ (Rat.divInt (1) 3) (Rat.divInt (2) 5)).num)) (IsI 2 (((btwQ (Rat.divInt (1) 3) (Rat.divInt (2) 5)).den : Int)))) 11 99) (Od.lc (Φ := IsQ (IsI 2 ((Rat.divInt (1) 3).num)) (IsI 2 (((Rat.divInt (1) 3).den : Int)))) 12 100) (fun x0 x1 w' hE d0 d1 => rqSame_eq d0 d1 (by decide) (by decide +kernel))) ?_
    refine Rc (pk (Od.loc 10 98) (Od.lc 13 101)) ?_
    refine Rc (mv (Od.lc 14 102)) ?_
    refine RcG 15 103 true (ldQ S 5 4 (g11) 0 (Od.lit 11) ld_Rat rfl rfl) ?_
    refine RcG 15 103 true (cl2 (en Tryz.func27) Od.con Od.con (fun x0 x1 w' hE d0 d1 => by { obtain rfl : x0 = .int .i64 5 := d0; obtain rfl : x1 = .int .i64 14 := d1; exact rqOf_f w' (5) 14 (by decide) (by decide) (by decide) })) ?_
    refine RcG 15 103 true (cl2 (en Tryz.func18) (Od.lc (Φ := IsQ (IsI 2 ((btwQ (Rat.divInt (17) 50) (Rat.divInt (9) 25)).num)) (IsI 2 (((btwQ (Rat.divInt (17) 50) (Rat.divInt (9) 25)).den : Int)))) 16 104) (Od.lc (Φ := IsQ (IsI 2 ((Rat.divInt (5) 14).num)) (IsI 2 (((Rat.divInt (5) 14).den : Int)))) 17 105) (fun x0 x1 w' hE d0 d1 => rqSame_eq d0 d1 (by decide) (by decide +kernel))) ?_
    refine Rc (pk (Od.loc 15 103) (Od.lc 18 106)) ?_
    refine Rc (mv (Od.lc 19 107)) ?_
    refine RcG 20 108 true (cl2 (en Tryz.func27) Od.con Od.con (fun x0 x1 w' hE d0 d1 => by { obtain rfl : x0 = .int .i64 (-1) := d0; obtain rfl : x1 = .int .i64 2 := d1; exact rqOf_f w' (-1) 2 (by decide) (by decide) (by decide) })) ?_
    refine RcG 20 108 true (cl1 (en Tryz.func39) (Od.lc (Φ := IsQ (IsI 2 ((Rat.divInt (-1) 2).num)) (IsI 2 (((Rat.divInt (-1) 2).den : Int)))) 21 109) (fun x0 w' hE d0 => qFloor_f d0 (by decide))) ?_
    refine RcG 20 108 true (cl1 (en Tryz.func24) Od.con (fun x0 w' hE d0 => by { obtain rfl : x0 = .int .i64 (-1) := d0; exact ROf_f _ ((-1)) (by decide) (by decide) })) ?_
    refine RcG 20 108 true (cl2 (en Tryz.func47) (Od.lc (Φ := IsI 2 ((Rat.divInt (-1) 2).floor)) 22 110) (Od.lc (Φ := IsI 2 ((-1))) 23 111) (fun x0 x1 w' hE d0 d1 => Same_t d0 d1 (by decide +kernel) (by decide))) ?_
    refine Rc (pk (Od.loc 20 108) (Od.lc 24 112)) ?_
    refine Rc (mv (Od.lc 25 113)) ?_
    refine RcG 26 114 true (ldQ S 15 14 (g1) 0 (Od.lit 1) ld_Rat rfl rfl) ?_
    refine RcG 26 114 true (cl1 (en Tryz.func41) (Od.lc (Φ := IsQ (IsI 2 ((Rat.divInt (1) 2).num)) (IsI 2 (((Rat.divInt (1) 2).den : Int)))) 27 115) (fun x0 w' hE d0 => (by have hh := qValid_f d0 (by decide); rw [validQ_rat] at hh; exact hh))) ?_
    refine Rc (pk (Od.loc 26 114) (Od.lc 28 116)) ?_
    refine Rc (mv (Od.lc 29 117)) ?_
    refine RcG 30 118 true (b0 z_Rat nilQ) ?_
    refine RcG 30 118 true (cl1 (en Tryz.func41) (Od.lc (Φ := IsQ (IsI 0 0) (IsI 0 0)) 31 119) (fun x0 w' hE d0 => qValid_f d0 (by decide))) ?_
    refine RcG 30 118 true (nt (Od.loc 32 120)) ?_
    refine Rc (pk (Od.loc 30 118) (Od.lc 33 121)) ?_
    refine Rc (mv (Od.lc 34 122)) ?_
    exact RgAll.nil
  intro v W17 e1 hΦ _
  replace S := S.mono e1
  have v35 : v 35 = .bool true := hΦ 35 (by decide)
  simp only [layL, Act.put, List.setIfInBounds_toArray, List.set_cons_zero, List.set_cons_succ, Nat.reduceAdd]
  rw [v35]
  clear v35 hΦ e1
  refine wpAny_done (by kernel_rfl) ?_ _
  go_wp2_with fail
  exact bodyPost_ret (v := .bool true) (by simp [results, Tryz.results12, go_sem]) rfl (⟨_, rfl, S.ext, rfl⟩)
end Go.Proofs.YtcgdkfadcglekaaGreatDoor
