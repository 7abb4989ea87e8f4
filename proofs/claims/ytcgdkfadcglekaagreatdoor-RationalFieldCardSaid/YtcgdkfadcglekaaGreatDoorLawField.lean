/-
  The statement RationalField: for every 3 descriptions of fractions the law answers true, and the descriptions read behind the call as they read before. The listed package variables hold what the program's text lays (the card ties them).
-/
import Derived.Test.YtcgdkfadcglekaaGreatDoorQe
import Derived.Test.YtcgdkfadcglekaaGreatDoorReadQ
import Derived.Test.YtcgdkfadcglekaaGreatDoorTie
import Derived.Test.YtcgdkfadcglekaaGreatDoorCards
import Derived.SevenTiedAt
namespace Go.Proofs.YtcgdkfadcglekaaGreatDoor
open Go Go.RowKit

theorem ratx_sub (a b : Rat) : a + b - b = a := by rw [Rat.sub_eq_add_neg, Rat.add_assoc, Rat.add_neg_cancel, Rat.add_zero]
theorem ratx_div (a : Rat) {b : Rat} (h : b ≠ 0) : a * b / b = a := by rw [Rat.div_def, Rat.mul_assoc, Rat.mul_inv_cancel b h, Rat.mul_one]
set_option maxRecDepth 100000 in
set_option maxHeartbeats 8000000 in
theorem Field_0 (w : World) (s1x s1y s2x s2y s3x s3y : Bool) (a1x a1y a2x a2y a3x a3y : Option Addr) (n1x n1y c1x c1y n2x n2y c2x c2y n3x n3y c3x c3y : Nat) (x1n x1d x2n x2d x3n x3d : List Nat) (h1x : Wd w a1x n1x c1x x1n) (h1y : Wd w a1y n1y c1y x1d) (h2x : Wd w a2x n2x c2x x2n) (h2y : Wd w a2y n2y c2y x2d) (h3x : Wd w a3x n3x c3x x3n) (h3y : Wd w a3y n3y c3y x3d) (ht : Tab w) (qa qb qc : Rat) (ha : madeQ s1x s1y x1n x1d 6 = qa) (hb : madeQ s2x s2y x2n x2d 6 = qb) (hc : madeQ s3x s3y x3n x3d 6 = qc) (hz : qb = 0) :
    Calls Tryz.prog 9 #[.agg #[.bool s1x, .slice a1x n1x c1x, .bool s1y, .slice a1y n1y c1y], .agg #[.bool s2x, .slice a2x n2x c2x, .bool s2y, .slice a2y n2y c2y], .agg #[.bool s3x, .slice a3x n3x c3x, .bool s3y, .slice a3y n3y c3y]] w (Ret w (IsV (.bool true))) := by
  have Ha := hid ha
  have Hb := hid hb
  have Hc := hid hc
  have HZ := hid hz
  obtain ⟨sg, hsg⟩ : ∃ s, qb.num.sign = s := ⟨_, rfl⟩
  have HS := hid hsg
  have HS1 := hid (show (sg == 0) = true by rw [← hsg, hz]; rfl)
  clear ha hb hc hz hsg
  obtain ⟨W, hW, S⟩ : ∃ W, W = ((w.alloc (.cells #[.bool s1x, .slice a1x n1x c1x, .bool s1y, .slice a1y n1y c1y] 26)).alloc (.cells #[.bool s2x, .slice a2x n2x c2x, .bool s2y, .slice a2y n2y c2y] 26)).alloc (.cells #[.bool s3x, .slice a3x n3x c3x, .bool s3y, .slice a3y n3y c3y] 26) ∧ Sto w W [((w.heap.size + 1 + 1, 1), IsR s3y x3d), ((w.heap.size + 1 + 1, 0), IsR s3x x3n), ((w.heap.size + 1, 1), IsR s2y x2d), ((w.heap.size + 1, 0), IsR s2x x2n), ((w.heap.size, 1), IsR s1y x1d), ((w.heap.size, 0), IsR s1x x1n)] := ⟨_, rfl, ((((Sto.start w).new2 (w.heap.size) (by simp) s1x s1y a1x a1y n1x c1x n1y c1y 26 (IsR s1x x1n) (IsR s1y x1d) (IsR.gstb _ _) (⟨_, _, _, rfl, h1x⟩) (IsR.gstb _ _) (⟨_, _, _, rfl, h1y⟩)).new2 (w.heap.size + 1) (by simp) s2x s2y a2x a2y n2x c2x n2y c2y 26 (IsR s2x x2n) (IsR s2y x2d) (IsR.gstb _ _) (⟨_, _, _, rfl, (h2x.ext ((Ext.refl _).alloc _))⟩) (IsR.gstb _ _) (⟨_, _, _, rfl, (h2y.ext ((Ext.refl _).alloc _))⟩)).new2 (w.heap.size + 1 + 1) (by simp) s3x s3y a3x a3y n3x c3x n3y c3y 26 (IsR s3x x3n) (IsR s3y x3d) (IsR.gstb _ _) (⟨_, _, _, rfl, ((h3x.ext ((Ext.refl _).alloc _)).ext ((Ext.refl _).alloc _))⟩) (IsR.gstb _ _) (⟨_, _, _, rfl, ((h3y.ext ((Ext.refl _).alloc _)).ext ((Ext.refl _).alloc _))⟩))⟩
  clear h1x h1y h2x h2y h3x h3y
  go_enter Tryz.func9, Tryz.ntmps9
  go_upto_region 1 with (fail)
  rw [← hW]
  clear hW
  refine rgs 2 [some 15, some 7] [IsV (.bool true), IsV (.bool true)] [] ?_ ?_
  · refine Rc (cl0 (en Tryz.func12)  (fun w' hE => examplesQ_f _ (ht.ext (S.ext.trans hE)))) ?_
    refine Rc (mv (Od.lc 0 15)) ?_
    exact RgAll.nil
  intro v W1 e1 hΦ _
  replace S := S.mono e1
  have v1 : v 1 = .bool true := hΦ 1 (by decide)
  simp only [layL, Act.put, List.setIfInBounds_toArray, List.set_cons_zero, List.set_cons_succ, Nat.reduceAdd]
  rw [v1]
  clear v1 hΦ e1
  refine wpList_nil ?_
  go_upto_region 2 with (fail)
  refine rgs 2 [some 16, some 17] [IsV (.bool true), IsV (.bool false)] [] ?_ ?_
  · refine Rc (mv (Od.lit 7)) ?_
    refine Rc (nt (Od.loc 0 16)) ?_
    exact RgAll.nil
  intro v W2 e1 hΦ _
  replace S := S.mono e1
  have v1 : v 1 = .bool false := hΦ 1 (by decide)
  simp only [layL, Act.put, List.setIfInBounds_toArray, List.set_cons_zero, List.set_cons_succ, Nat.reduceAdd]
  rw [v1]
  clear v1 hΦ e1
  refine wpList_nil ?_
  go_upto_region 4 with (fail)
  have hl := hid S.lt; have hw := S.ext.size
  refine rgn 12 [some 18, some 19, some 20, some 21, some 22, some 23, some 8, some 9, some 10, none, none, none] [IsQ (IsR s1x x1n) (IsR s1y x1d), IsQ (IsI 8 qa.num) (IsI 8 ((qa.den : Int))), IsQ (IsR s2x x2n) (IsR s2y x2d), IsQ (IsI 8 qb.num) (IsI 8 ((qb.den : Int))), IsQ (IsR s3x x3n) (IsR s3y x3d), IsQ (IsI 8 qc.num) (IsI 8 ((qc.den : Int))), IsNw W2 2, IsNw W2 2, IsNw W2 2, TT, TT, TT] [6, 7, 8] [none, none, none, none, none, none, none, none, none, some (6, [IsI 8 qa.num, IsI 8 ((qa.den : Int))]), some (7, [IsI 8 qb.num, IsI 8 ((qb.den : Int))]), some (8, [IsI 8 qc.num, IsI 8 ((qc.den : Int))])] [none, none, none, none, none, none, none, none, none, some 6, some 7, some 8] 0 ?_ ?_
  · refine RcK (ldQ S 5 4 (w.heap.size) 0 (Od.lit 3) ld_RawQ rfl rfl) ?_
    refine RcK (cl2 (en Tryz.func13) (Od.lc (Φ := IsQ (IsR s1x x1n) (IsR s1y x1d)) 0 18) Od.con (fun x0 x1 w' hE d0 d1 => by { obtain rfl : x1 = .int .i64 6 := d1; exact Calls.mono (rqMade_f d0 6 (by decide)) fun _ _ h => h.ratz Ha.out (Nat.le_refl _) })) ?_
    refine RcK (ldQ S 3 2 (w.heap.size + 1) 0 (Od.lit 4) ld_RawQ rfl rfl) ?_
    refine RcK (cl2 (en Tryz.func13) (Od.lc (Φ := IsQ (IsR s2x x2n) (IsR s2y x2d)) 2 20) Od.con (fun x0 x1 w' hE d0 d1 => by { obtain rfl : x1 = .int .i64 6 := d1; exact Calls.mono (rqMade_f d0 6 (by decide)) fun _ _ h => h.ratz Hb.out (Nat.le_refl _) })) ?_
    refine RcK (ldQ S 1 0 (w.heap.size + 1 + 1) 0 (Od.lit 5) ld_RawQ rfl rfl) ?_
    refine RcK (cl2 (en Tryz.func13) (Od.lc (Φ := IsQ (IsR s3x x3n) (IsR s3y x3d)) 4 22) Od.con (fun x0 x1 w' hE d0 d1 => by { obtain rfl : x1 = .int .i64 6 := d1; exact Calls.mono (rqMade_f d0 6 (by decide)) fun _ _ h => h.ratz Hc.out (Nat.le_refl _) })) ?_
    refine RcK (alN al_Rat) ?_
    refine RcK (alN al_Rat) ?_
    refine RcK (alN al_Rat) ?_
    refine RcS 6 (sQ st_Rat (Od.lc (Φ := IsQ (IsI 8 qa.num) (IsI 8 ((qa.den : Int)))) 1 19) (IsI.gstb _ _) (IsI.gstb _ _)) ?_
    refine RcS 7 (sQ st_Rat (Od.lc (Φ := IsQ (IsI 8 qb.num) (IsI 8 ((qb.den : Int)))) 3 21) (IsI.gstb _ _) (IsI.gstb _ _)) ?_
    refine RcS 8 (sQ st_Rat (Od.lc (Φ := IsQ (IsI 8 qc.num) (IsI 8 ((qc.den : Int)))) 5 23) (IsI.gstb _ _) (IsI.gstb _ _)) ?_
    exact RgAllN.nil
  intro v W3 e1 hΦ hS hne
  replace S := S.mono e1
  obtain ⟨g8, v6, q1, S2⟩ := S.addQ (hΦ 6 (by decide) rfl) (hS 9 (by decide) _ _ rfl) hw (IsI.gstb _ _) (IsI.gstb _ _)
  replace S := S2 (ApartO.old hl.out q1); clear S2
  obtain ⟨g9, v7, q2, S2⟩ := S.addQ (hΦ 7 (by decide) rfl) (hS 10 (by decide) _ _ rfl) hw (IsI.gstb _ _) (IsI.gstb _ _)
  replace S := S2 (ApartO.cons (fun h => hne 6 7 (by decide) (by decide) (by decide) (by decide) (by decide) rfl rfl (by rw [v6, v7, h])) (ApartO.cons (fun h => hne 6 7 (by decide) (by decide) (by decide) (by decide) (by decide) rfl rfl (by rw [v6, v7, h])) (ApartO.old hl.out q2))); clear S2
  obtain ⟨g10, v8, q3, S2⟩ := S.addQ (hΦ 8 (by decide) rfl) (hS 11 (by decide) _ _ rfl) hw (IsI.gstb _ _) (IsI.gstb _ _)
  replace S := S2 (ApartO.cons (fun h => hne 7 8 (by decide) (by decide) (by decide) (by decide) (by decide) rfl rfl (by rw [v7, v8, h])) (ApartO.cons (fun h => hne 7 8 (by decide) (by decide) (by decide) (by decide) (by decide) rfl rfl (by rw [v7, v8, h])) (ApartO.cons (fun h => hne 6 8 (by decide) (by decide) (by decide) (by decide) (by decide) rfl rfl (by rw [v6, v8, h])) (ApartO.cons (fun h => hne 6 8 (by decide) (by decide) (by decide) (by decide) (by decide) rfl rfl (by rw [v6, v8, h])) (ApartO.old hl.out q3))))); clear S2
  simp only [layL, Act.put, List.setIfInBounds_toArray, List.set_cons_zero, List.set_cons_succ, Nat.reduceAdd]
  rw [v6, v7, v8]
  clear hl hw hne v6 v7 v8 hΦ hS e1
  refine wpAny_done (by kernel_rfl) ?_ _
  go_upto_region 5 with (fail)
  have hl := hid S.lt; have hw := S.ext.size
  refine rgn 10 [some 24, some 25, some 26, some 27, some 28, some 29, some 11, some 12, none, none] [IsQ (IsI 8 qa.num) (IsI 8 ((qa.den : Int))), IsQ (IsI 8 qb.num) (IsI 8 ((qb.den : Int))), IsQ (IsI 17 ((qa + qb).num)) (IsI 17 (((qa + qb).den : Int))), IsQ (IsI 8 qa.num) (IsI 8 ((qa.den : Int))), IsQ (IsI 8 qb.num) (IsI 8 ((qb.den : Int))), IsQ (IsI 16 ((qa * qb).num)) (IsI 16 (((qa * qb).den : Int))), IsNw W3 2, IsNw W3 2, TT, TT] [6, 7] [none, none, none, none, none, none, none, none, some (6, [IsI 17 ((qa + qb).num), IsI 17 (((qa + qb).den : Int))]), some (7, [IsI 16 ((qa * qb).num), IsI 16 (((qa * qb).den : Int))])] [none, none, none, none, none, none, none, none, some 6, some 7] 0 ?_ ?_
  · refine RcK (ldQ S 5 4 (g8) 0 (Od.lit 8) ld_Rat rfl rfl) ?_
    refine RcK (ldQ S 3 2 (g9) 0 (Od.lit 9) ld_Rat rfl rfl) ?_
    refine RcK (cl2 (en Tryz.func37) (Od.lc (Φ := IsQ (IsI 8 qa.num) (IsI 8 ((qa.den : Int)))) 0 24) (Od.lc (Φ := IsQ (IsI 8 qb.num) (IsI 8 ((qb.den : Int)))) 1 25) (fun x0 x1 w' hE d0 d1 => qAdd_f d0 d1 (by decide) (by decide))) ?_
    refine RcK (ldQ S 5 4 (g8) 0 (Od.lit 8) ld_Rat rfl rfl) ?_
    refine RcK (ldQ S 3 2 (g9) 0 (Od.lit 9) ld_Rat rfl rfl) ?_
    refine RcK (cl2 (en Tryz.func38) (Od.lc (Φ := IsQ (IsI 8 qa.num) (IsI 8 ((qa.den : Int)))) 3 27) (Od.lc (Φ := IsQ (IsI 8 qb.num) (IsI 8 ((qb.den : Int)))) 4 28) (fun x0 x1 w' hE d0 d1 => qMul_f d0 d1 (by decide) (by decide))) ?_
    refine RcK (alN al_Rat) ?_
    refine RcK (alN al_Rat) ?_
    refine RcS 6 (sQ st_Rat (Od.lc (Φ := IsQ (IsI 17 ((qa + qb).num)) (IsI 17 (((qa + qb).den : Int)))) 2 26) (IsI.gstb _ _) (IsI.gstb _ _)) ?_
    refine RcS 7 (sQ st_Rat (Od.lc (Φ := IsQ (IsI 16 ((qa * qb).num)) (IsI 16 (((qa * qb).den : Int)))) 5 29) (IsI.gstb _ _) (IsI.gstb _ _)) ?_
    exact RgAllN.nil
  intro v W4 e1 hΦ hS hne
  replace S := S.mono e1
  obtain ⟨g11, v6, q4, S2⟩ := S.addQ (hΦ 6 (by decide) rfl) (hS 8 (by decide) _ _ rfl) hw (IsI.gstb _ _) (IsI.gstb _ _)
  replace S := S2 (ApartO.old hl.out q4); clear S2
  obtain ⟨g12, v7, q5, S2⟩ := S.addQ (hΦ 7 (by decide) rfl) (hS 9 (by decide) _ _ rfl) hw (IsI.gstb _ _) (IsI.gstb _ _)
  replace S := S2 (ApartO.cons (fun h => hne 6 7 (by decide) (by decide) (by decide) (by decide) (by decide) rfl rfl (by rw [v6, v7, h])) (ApartO.cons (fun h => hne 6 7 (by decide) (by decide) (by decide) (by decide) (by decide) rfl rfl (by rw [v6, v7, h])) (ApartO.old hl.out q5))); clear S2
  simp only [layL, Act.put, List.setIfInBounds_toArray, List.set_cons_zero, List.set_cons_succ, Nat.reduceAdd]
  rw [v6, v7]
  clear hl hw hne v6 v7 hΦ hS e1
  refine wpAny_done (by kernel_rfl) ?_ _
  go_upto_region 6 with (fail)
  refine rg 22 [some 30, some 31, some 32, some 33, some 34, some 35, some 36, some 37, some 38, some 39, some 40, some 41, some 42, some 43, some 44, some 45, some 46, some 47, some 48, some 49, some 50, some 51] [IsQ (IsI 17 ((qa + qb).num)) (IsI 17 (((qa + qb).den : Int))), IsQ (IsI 8 qb.num) (IsI 8 ((qb.den : Int))), IsQ (IsI 8 qa.num) (IsI 8 ((qa.den : Int))), IsQ (IsI 17 ((qb + qa).num)) (IsI 17 (((qb + qa).den : Int))), IsV (.bool true), IsV (.bool false), IsV (.bool false), IsQ (IsI 16 ((qa * qb).num)) (IsI 16 (((qa * qb).den : Int))), IsQ (IsI 8 qb.num) (IsI 8 ((qb.den : Int))), IsQ (IsI 8 qa.num) (IsI 8 ((qa.den : Int))), IsQ (IsI 16 ((qb * qa).num)) (IsI 16 (((qb * qa).den : Int))), IsV (.bool true), IsV (.bool false), IsV (.bool false), IsV (.bool false), IsQ (IsI 17 ((qa + qb).num)) (IsI 17 (((qa + qb).den : Int))), IsQ (IsI 8 qb.num) (IsI 8 ((qb.den : Int))), IsQ (IsI 26 ((qa + qb - qb).num)) (IsI 26 (((qa + qb - qb).den : Int))), IsQ (IsI 8 qa.num) (IsI 8 ((qa.den : Int))), IsV (.bool true), IsV (.bool false), IsV (.bool false)] [] 0 ?_ ?_
  · refine Rc (ldQ S 3 2 (g11) 0 (Od.lit 11) ld_Rat rfl rfl) ?_
    refine Rc (ldQ S 7 6 (g9) 0 (Od.lit 9) ld_Rat rfl rfl) ?_
    refine Rc (ldQ S 9 8 (g8) 0 (Od.lit 8) ld_Rat rfl rfl) ?_
    refine Rc (cl2 (en Tryz.func37) (Od.lc (Φ := IsQ (IsI 8 qb.num) (IsI 8 ((qb.den : Int)))) 1 31) (Od.lc (Φ := IsQ (IsI 8 qa.num) (IsI 8 ((qa.den : Int)))) 2 32) (fun x0 x1 w' hE d0 d1 => qAdd_f d0 d1 (by decide) (by decide))) ?_
    refine Rc (cl2 (en Tryz.func18) (Od.lc (Φ := IsQ (IsI 17 ((qa + qb).num)) (IsI 17 (((qa + qb).den : Int)))) 0 30) (Od.lc (Φ := IsQ (IsI 17 ((qb + qa).num)) (IsI 17 (((qb + qa).den : Int)))) 3 33) (fun x0 x1 w' hE d0 d1 => rqSame_eq d0 d1 (by decide) (Rat.add_comm _ _))) ?_
    refine Rc (nt (Od.loc 4 34)) ?_
    refine Rc (mv (Od.lc 5 35)) ?_
    refine RcG 6 36 false (ldQ S 1 0 (g12) 0 (Od.lit 12) ld_Rat rfl rfl) ?_
    refine RcG 6 36 false (ldQ S 7 6 (g9) 0 (Od.lit 9) ld_Rat rfl rfl) ?_
    refine RcG 6 36 false (ldQ S 9 8 (g8) 0 (Od.lit 8) ld_Rat rfl rfl) ?_
    refine RcG 6 36 false (cl2 (en Tryz.func38) (Od.lc (Φ := IsQ (IsI 8 qb.num) (IsI 8 ((qb.den : Int)))) 8 38) (Od.lc (Φ := IsQ (IsI 8 qa.num) (IsI 8 ((qa.den : Int)))) 9 39) (fun x0 x1 w' hE d0 d1 => qMul_f d0 d1 (by decide) (by decide))) ?_
    refine RcG 6 36 false (cl2 (en Tryz.func18) (Od.lc (Φ := IsQ (IsI 16 ((qa * qb).num)) (IsI 16 (((qa * qb).den : Int)))) 7 37) (Od.lc (Φ := IsQ (IsI 16 ((qb * qa).num)) (IsI 16 (((qb * qa).den : Int)))) 10 40) (fun x0 x1 w' hE d0 d1 => rqSame_eq d0 d1 (by decide) (Rat.mul_comm _ _))) ?_
    refine RcG 6 36 false (nt (Od.loc 11 41)) ?_
    refine Rc (pk (Od.loc 6 36) (Od.lc 12 42)) ?_
    refine Rc (mv (Od.lc 13 43)) ?_
    refine RcG 14 44 false (ldQ S 3 2 (g11) 0 (Od.lit 11) ld_Rat rfl rfl) ?_
    refine RcG 14 44 false (ldQ S 7 6 (g9) 0 (Od.lit 9) ld_Rat rfl rfl) ?_
    refine RcG 14 44 false (cl2 (en Tryz.func36) (Od.lc (Φ := IsQ (IsI 17 ((qa + qb).num)) (IsI 17 (((qa + qb).den : Int)))) 15 45) (Od.lc (Φ := IsQ (IsI 8 qb.num) (IsI 8 ((qb.den : Int)))) 16 46) (fun x0 x1 w' hE d0 d1 => qSub_f d0 d1 (by decide) (by decide))) ?_
    refine RcG 14 44 false (ldQ S 9 8 (g8) 0 (Od.lit 8) ld_Rat rfl rfl) ?_
    refine RcG 14 44 false (cl2 (en Tryz.func18) (Od.lc (Φ := IsQ (IsI 26 ((qa + qb - qb).num)) (IsI 26 (((qa + qb - qb).den : Int)))) 17 47) (Od.lc (Φ := IsQ (IsI 8 qa.num) (IsI 8 ((qa.den : Int)))) 18 48) (fun x0 x1 w' hE d0 d1 => rqSame_eq d0 d1 (by decide) (ratx_sub _ _))) ?_
    refine RcG 14 44 false (nt (Od.loc 19 49)) ?_
    refine Rc (pk (Od.loc 14 44) (Od.lc 20 50)) ?_
    exact RgAll.nil
  intro v W5 e1 hΦ _
  replace S := S.mono e1
  have v21 : v 21 = .bool false := hΦ 21 (by decide)
  simp only [layL, Act.put, List.setIfInBounds_toArray, List.set_cons_zero, List.set_cons_succ, Nat.reduceAdd]
  rw [v21]
  clear v21 hΦ e1
  refine wpAny_done (by kernel_rfl) ?_ _
  go_upto_region 8 with (fail)
  refine rg 22 [some 52, some 53, some 54, some 55, some 56, some 57, some 58, some 59, some 60, some 61, some 62, some 63, some 64, some 65, some 66, some 67, some 68, some 69, some 70, some 71, some 72, some 73] [IsQ (IsI 17 ((qa + qb).num)) (IsI 17 (((qa + qb).den : Int))), IsQ (IsI 8 qc.num) (IsI 8 ((qc.den : Int))), IsQ (IsI 26 ((qa + qb + qc).num)) (IsI 26 (((qa + qb + qc).den : Int))), IsQ (IsI 8 qa.num) (IsI 8 ((qa.den : Int))), IsQ (IsI 8 qb.num) (IsI 8 ((qb.den : Int))), IsQ (IsI 8 qc.num) (IsI 8 ((qc.den : Int))), IsQ (IsI 17 ((qb + qc).num)) (IsI 17 (((qb + qc).den : Int))), IsQ (IsI 26 ((qa + (qb + qc)).num)) (IsI 26 (((qa + (qb + qc)).den : Int))), IsV (.bool true), IsV (.bool false), IsV (.bool false), IsQ (IsI 16 ((qa * qb).num)) (IsI 16 (((qa * qb).den : Int))), IsQ (IsI 8 qc.num) (IsI 8 ((qc.den : Int))), IsQ (IsI 24 ((qa * qb * qc).num)) (IsI 24 (((qa * qb * qc).den : Int))), IsQ (IsI 8 qa.num) (IsI 8 ((qa.den : Int))), IsQ (IsI 8 qb.num) (IsI 8 ((qb.den : Int))), IsQ (IsI 8 qc.num) (IsI 8 ((qc.den : Int))), IsQ (IsI 16 ((qb * qc).num)) (IsI 16 (((qb * qc).den : Int))), IsQ (IsI 24 ((qa * (qb * qc)).num)) (IsI 24 (((qa * (qb * qc)).den : Int))), IsV (.bool true), IsV (.bool false), IsV (.bool false)] [] 0 ?_ ?_
  · refine Rc (ldQ S 3 2 (g11) 0 (Od.lit 11) ld_Rat rfl rfl) ?_
    refine Rc (ldQ S 5 4 (g10) 0 (Od.lit 10) ld_Rat rfl rfl) ?_
    refine Rc (cl2 (en Tryz.func37) (Od.lc (Φ := IsQ (IsI 17 ((qa + qb).num)) (IsI 17 (((qa + qb).den : Int)))) 0 52) (Od.lc (Φ := IsQ (IsI 8 qc.num) (IsI 8 ((qc.den : Int)))) 1 53) (fun x0 x1 w' hE d0 d1 => qAdd_f d0 d1 (by decide) (by decide))) ?_
    refine Rc (ldQ S 9 8 (g8) 0 (Od.lit 8) ld_Rat rfl rfl) ?_
    refine Rc (ldQ S 7 6 (g9) 0 (Od.lit 9) ld_Rat rfl rfl) ?_
    refine Rc (ldQ S 5 4 (g10) 0 (Od.lit 10) ld_Rat rfl rfl) ?_
    refine Rc (cl2 (en Tryz.func37) (Od.lc (Φ := IsQ (IsI 8 qb.num) (IsI 8 ((qb.den : Int)))) 4 56) (Od.lc (Φ := IsQ (IsI 8 qc.num) (IsI 8 ((qc.den : Int)))) 5 57) (fun x0 x1 w' hE d0 d1 => qAdd_f d0 d1 (by decide) (by decide))) ?_
    refine Rc (cl2 (en Tryz.func37) (Od.lc (Φ := IsQ (IsI 8 qa.num) (IsI 8 ((qa.den : Int)))) 3 55) (Od.lc (Φ := IsQ (IsI 17 ((qb + qc).num)) (IsI 17 (((qb + qc).den : Int)))) 6 58) (fun x0 x1 w' hE d0 d1 => qAdd_f d0 d1 (by decide) (by decide))) ?_
    refine Rc (cl2 (en Tryz.func18) (Od.lc (Φ := IsQ (IsI 26 ((qa + qb + qc).num)) (IsI 26 (((qa + qb + qc).den : Int)))) 2 54) (Od.lc (Φ := IsQ (IsI 26 ((qa + (qb + qc)).num)) (IsI 26 (((qa + (qb + qc)).den : Int)))) 7 59) (fun x0 x1 w' hE d0 d1 => rqSame_eq d0 d1 (by decide) (Rat.add_assoc _ _ _))) ?_
    refine Rc (nt (Od.loc 8 60)) ?_
    refine Rc (mv (Od.lc 9 61)) ?_
    refine RcG 10 62 false (ldQ S 1 0 (g12) 0 (Od.lit 12) ld_Rat rfl rfl) ?_
    refine RcG 10 62 false (ldQ S 5 4 (g10) 0 (Od.lit 10) ld_Rat rfl rfl) ?_
    refine RcG 10 62 false (cl2 (en Tryz.func38) (Od.lc (Φ := IsQ (IsI 16 ((qa * qb).num)) (IsI 16 (((qa * qb).den : Int)))) 11 63) (Od.lc (Φ := IsQ (IsI 8 qc.num) (IsI 8 ((qc.den : Int)))) 12 64) (fun x0 x1 w' hE d0 d1 => qMul_f d0 d1 (by decide) (by decide))) ?_
    refine RcG 10 62 false (ldQ S 9 8 (g8) 0 (Od.lit 8) ld_Rat rfl rfl) ?_
    refine RcG 10 62 false (ldQ S 7 6 (g9) 0 (Od.lit 9) ld_Rat rfl rfl) ?_
    refine RcG 10 62 false (ldQ S 5 4 (g10) 0 (Od.lit 10) ld_Rat rfl rfl) ?_
    refine RcG 10 62 false (cl2 (en Tryz.func38) (Od.lc (Φ := IsQ (IsI 8 qb.num) (IsI 8 ((qb.den : Int)))) 15 67) (Od.lc (Φ := IsQ (IsI 8 qc.num) (IsI 8 ((qc.den : Int)))) 16 68) (fun x0 x1 w' hE d0 d1 => qMul_f d0 d1 (by decide) (by decide))) ?_
    refine RcG 10 62 false (cl2 (en Tryz.func38) (Od.lc (Φ := IsQ (IsI 8 qa.num) (IsI 8 ((qa.den : Int)))) 14 66) (Od.lc (Φ := IsQ (IsI 16 ((qb * qc).num)) (IsI 16 (((qb * qc).den : Int)))) 17 69) (fun x0 x1 w' hE d0 d1 => qMul_f d0 d1 (by decide) (by decide))) ?_
    refine RcG 10 62 false (cl2 (en Tryz.func18) (Od.lc (Φ := IsQ (IsI 24 ((qa * qb * qc).num)) (IsI 24 (((qa * qb * qc).den : Int)))) 13 65) (Od.lc (Φ := IsQ (IsI 24 ((qa * (qb * qc)).num)) (IsI 24 (((qa * (qb * qc)).den : Int)))) 18 70) (fun x0 x1 w' hE d0 d1 => rqSame_eq d0 d1 (by decide) (Rat.mul_assoc _ _ _))) ?_
    refine RcG 10 62 false (nt (Od.loc 19 71)) ?_
    refine Rc (pk (Od.loc 10 62) (Od.lc 20 72)) ?_
    exact RgAll.nil
  intro v W6 e1 hΦ _
  replace S := S.mono e1
  have v21 : v 21 = .bool false := hΦ 21 (by decide)
  simp only [layL, Act.put, List.setIfInBounds_toArray, List.set_cons_zero, List.set_cons_succ, Nat.reduceAdd]
  rw [v21]
  clear v21 hΦ e1
  refine wpAny_done (by kernel_rfl) ?_ _
  go_upto_region 10 with (fail)
  refine rg 12 [some 74, some 75, some 76, some 77, some 78, some 79, some 80, some 81, some 82, some 83, some 84, some 85] [IsQ (IsI 17 ((qa + qb).num)) (IsI 17 (((qa + qb).den : Int))), IsQ (IsI 8 qc.num) (IsI 8 ((qc.den : Int))), IsQ (IsI 25 (((qa + qb) * qc).num)) (IsI 25 ((((qa + qb) * qc).den : Int))), IsQ (IsI 8 qa.num) (IsI 8 ((qa.den : Int))), IsQ (IsI 8 qc.num) (IsI 8 ((qc.den : Int))), IsQ (IsI 16 ((qa * qc).num)) (IsI 16 (((qa * qc).den : Int))), IsQ (IsI 8 qb.num) (IsI 8 ((qb.den : Int))), IsQ (IsI 8 qc.num) (IsI 8 ((qc.den : Int))), IsQ (IsI 16 ((qb * qc).num)) (IsI 16 (((qb * qc).den : Int))), IsQ (IsI 33 ((qa * qc + qb * qc).num)) (IsI 33 (((qa * qc + qb * qc).den : Int))), IsV (.bool true), IsV (.bool false)] [] 0 ?_ ?_
  · refine Rc (ldQ S 3 2 (g11) 0 (Od.lit 11) ld_Rat rfl rfl) ?_
    refine Rc (ldQ S 5 4 (g10) 0 (Od.lit 10) ld_Rat rfl rfl) ?_
    refine Rc (cl2 (en Tryz.func38) (Od.lc (Φ := IsQ (IsI 17 ((qa + qb).num)) (IsI 17 (((qa + qb).den : Int)))) 0 74) (Od.lc (Φ := IsQ (IsI 8 qc.num) (IsI 8 ((qc.den : Int)))) 1 75) (fun x0 x1 w' hE d0 d1 => qMul_f d0 d1 (by decide) (by decide))) ?_
    refine Rc (ldQ S 9 8 (g8) 0 (Od.lit 8) ld_Rat rfl rfl) ?_
    refine Rc (ldQ S 5 4 (g10) 0 (Od.lit 10) ld_Rat rfl rfl) ?_
    refine Rc (cl2 (en Tryz.func38) (Od.lc (Φ := IsQ (IsI 8 qa.num) (IsI 8 ((qa.den : Int)))) 3 77) (Od.lc (Φ := IsQ (IsI 8 qc.num) (IsI 8 ((qc.den : Int)))) 4 78) (fun x0 x1 w' hE d0 d1 => qMul_f d0 d1 (by decide) (by decide))) ?_
    refine Rc (ldQ S 7 6 (g9) 0 (Od.lit 9) ld_Rat rfl rfl) ?_
    refine Rc (ldQ S 5 4 (g10) 0 (Od.lit 10) ld_Rat rfl rfl) ?_
    refine Rc (cl2 (en Tryz.func38) (Od.lc (Φ := IsQ (IsI 8 qb.num) (IsI 8 ((qb.den : Int)))) 6 80) (Od.lc (Φ := IsQ (IsI 8 qc.num) (IsI 8 ((qc.den : Int)))) 7 81) (fun x0 x1 w' hE d0 d1 => qMul_f d0 d1 (by decide) (by decide))) ?_
    refine Rc (cl2 (en Tryz.func37) (Od.lc (Φ := IsQ (IsI 16 ((qa * qc).num)) (IsI 16 (((qa * qc).den : Int)))) 5 79) (Od.lc (Φ := IsQ (IsI 16 ((qb * qc).num)) (IsI 16 (((qb * qc).den : Int)))) 8 82) (fun x0 x1 w' hE d0 d1 => qAdd_f d0 d1 (by decide) (by decide))) ?_
    refine Rc (cl2 (en Tryz.func18) (Od.lc (Φ := IsQ (IsI 25 (((qa + qb) * qc).num)) (IsI 25 ((((qa + qb) * qc).den : Int)))) 2 76) (Od.lc (Φ := IsQ (IsI 33 ((qa * qc + qb * qc).num)) (IsI 33 (((qa * qc + qb * qc).den : Int)))) 9 83) (fun x0 x1 w' hE d0 d1 => rqSame_eq d0 d1 (by decide) (Rat.add_mul _ _ _))) ?_
    refine Rc (nt (Od.loc 10 84)) ?_
    exact RgAll.nil
  intro v W7 e1 hΦ _
  replace S := S.mono e1
  have v11 : v 11 = .bool false := hΦ 11 (by decide)
  simp only [layL, Act.put, List.setIfInBounds_toArray, List.set_cons_zero, List.set_cons_succ, Nat.reduceAdd]
  rw [v11]
  clear v11 hΦ e1
  refine wpAny_done (by kernel_rfl) ?_ _
  go_upto_region 12 with (fail)
  have hl := hid S.lt; have hw := S.ext.size
  refine rgs 7 [some 87, some 88, some 89, some 86, some 90, some 91, some 13] [IsQ (IsI 16 ((qa * qb).num)) (IsI 16 (((qa * qb).den : Int))), IsQ (IsI 8 qb.num) (IsI 8 ((qb.den : Int))), IsT2 (IsQ (IsI 0 0) (IsI 0 0)) (IsV (.int .i64 4)), IsT2 (IsQ (IsI 0 0) (IsI 0 0)) (IsV (.int .i64 4)), IsQ (IsI 0 0) (IsI 0 0), IsV (.int .i64 4), IsBo W7 2] [6] ?_ ?_
  · refine Rc (ldQ S 1 0 (g12) 0 (Od.lit 12) ld_Rat rfl rfl) ?_
    refine Rc (ldQ S 7 6 (g9) 0 (Od.lit 9) ld_Rat rfl rfl) ?_
    refine Rc (cl2 (en Tryz.func50) (Od.lc (Φ := IsQ (IsI 16 ((qa * qb).num)) (IsI 16 (((qa * qb).den : Int)))) 0 87) (Od.lc (Φ := IsQ (IsI 8 qb.num) (IsI 8 ((qb.den : Int)))) 1 88) (fun x0 x1 w' hE d0 d1 => qDiv0_f d0 d1 (by decide) (by decide) HZ.out)) ?_
    refine Rc (mv (Od.lc 2 89)) ?_
    refine Rc (ex (Od.loc 3 86) t20) ?_
    refine Rc (ex (Od.loc 3 86) t21) ?_
    refine Rc (al al_Rat) ?_
    exact RgAll.nil
  intro v W8 e1 hΦ _
  replace S := S.mono e1
  have h90 := hΦ 4 (by decide)
  have v5 : v 5 = .int .i64 4 := hΦ 5 (by decide)
  obtain ⟨g13, v6, q7, b6, _⟩ := (hΦ 6 (by decide) : IsBo W7 2 (v 6) W8)
  replace S := S.addN 2 (ApartO.old hl.out q7) (Nat.le_trans hw q7) b6
  simp only [newF, List.cons_append, List.nil_append] at S
  simp only [layL, Act.put, List.setIfInBounds_toArray, List.set_cons_zero, List.set_cons_succ, Nat.reduceAdd]
  rw [v5, v6]
  clear b6 hl hw v5 v6 hΦ e1
  try simp only [List.drop_succ_cons, List.drop_zero]
  (with_reducible refine stL ?_ (by rfl)); intro KK hKK; refine stQ S 1 0 (g13) 0 h90 (IsI.gstb _ _) (IsI.gstb _ _) st_Rat (fun W9 S2 G2 => hKK _ _ ?_) rfl rfl
  replace S := S2; clear S2 G2 hKK KK h90
  simp only [List.set_cons_zero, List.set_cons_succ] at S
  refine wpList_step fun K hK => ?_; go_simp; refine hK _ _ ?_; clear hK K
  refine wpList_nil ?_
  go_upto_region 13 with (fail)
  refine rgs 3 [some 92, some 93, some 94] [IsQ (IsI 8 qb.num) (IsI 8 ((qb.den : Int))), IsV (.int .i64 sg), IsV (.bool true)] [] ?_ ?_
  · refine Rc (ldQ S 9 8 (g9) 0 (Od.lit 9) ld_Rat rfl rfl) ?_
    refine Rc (cl1 (en Tryz.func35) (Od.lc (Φ := IsQ (IsI 8 qb.num) (IsI 8 ((qb.den : Int)))) 0 92) (fun x0 w' hE d0 => Calls.mono (qSign_f d0) fun _ _ h => h.int HS.out)) ?_
    refine Rc (bn (r := .bool true) (Od.loc 1 93) Od.con (hr := fun w => by have hx9 := HS1.out; go_simp)) ?_
    exact RgAll.nil
  intro v W10 e1 hΦ _
  replace S := S.mono e1
  have v2 : v 2 = .bool true := hΦ 2 (by decide)
  simp only [layL, Act.put, List.setIfInBounds_toArray, List.set_cons_zero, List.set_cons_succ, Nat.reduceAdd]
  rw [v2]
  clear v2 hΦ e1
  refine wpList_nil ?_
  go_upto_region 14 with (fail)
  refine rgs 6 [some 95, some 96, some 97, some 98, some 99, some 6] [IsV (.int .i64 4), IsV (.bool true), IsV (.bool true), IsV (.bool true), IsV (.bool true), IsV (.bool true)] [] ?_ ?_
  · refine Rc (mv (Od.lit 14)) ?_
    refine Rc (bn (r := .bool true) (Od.loc 0 95) Od.con (hr := fun w => by go_simp)) ?_
    refine Rc (mv (Od.lc 1 96)) ?_
    refine RcG 2 97 true (mv (Od.lit 7)) ?_
    refine Rc (pk (Od.loc 2 97) (Od.lc 3 98)) ?_
    refine Rc (mv (Od.lc 4 99)) ?_
    exact RgAll.nil
  intro v W11 e1 hΦ _
  replace S := S.mono e1
  have v5 : v 5 = .bool true := hΦ 5 (by decide)
  simp only [layL, Act.put, List.setIfInBounds_toArray, List.set_cons_zero, List.set_cons_succ, Nat.reduceAdd]
  rw [v5]
  clear v5 hΦ e1
  refine wpList_nil ?_
  go_wp2_with fail
  exact bodyPost_ret (v := .bool true) (by simp [results, Tryz.results9, go_sem]) rfl (⟨_, rfl, S.ext, rfl⟩)
set_option maxRecDepth 100000 in
set_option maxHeartbeats 8000000 in
theorem Field_1 (w : World) (s1x s1y s2x s2y s3x s3y : Bool) (a1x a1y a2x a2y a3x a3y : Option Addr) (n1x n1y c1x c1y n2x n2y c2x c2y n3x n3y c3x c3y : Nat) (x1n x1d x2n x2d x3n x3d : List Nat) (h1x : Wd w a1x n1x c1x x1n) (h1y : Wd w a1y n1y c1y x1d) (h2x : Wd w a2x n2x c2x x2n) (h2y : Wd w a2y n2y c2y x2d) (h3x : Wd w a3x n3x c3x x3n) (h3y : Wd w a3y n3y c3y x3d) (ht : Tab w) (qa qb qc : Rat) (ha : madeQ s1x s1y x1n x1d 6 = qa) (hb : madeQ s2x s2y x2n x2d 6 = qb) (hc : madeQ s3x s3y x3n x3d 6 = qc) (hz : qb ≠ 0) :
    Calls Tryz.prog 9 #[.agg #[.bool s1x, .slice a1x n1x c1x, .bool s1y, .slice a1y n1y c1y], .agg #[.bool s2x, .slice a2x n2x c2x, .bool s2y, .slice a2y n2y c2y], .agg #[.bool s3x, .slice a3x n3x c3x, .bool s3y, .slice a3y n3y c3y]] w (Ret w (IsV (.bool true))) := by
  have Ha := hid ha
  have Hb := hid hb
  have Hc := hid hc
  have HZ := hid hz
  obtain ⟨sg, hsg⟩ : ∃ s, qb.num.sign = s := ⟨_, rfl⟩
  have HS := hid hsg
  have HS1 := hid (show (sg == 0) = false by rw [beq_eq_false_iff_ne, ← hsg]; intro h; exact hz (Rat.num_eq_zero.1 (Int.sign_eq_zero_iff_zero.1 h)))
  clear ha hb hc hz hsg
  obtain ⟨W, hW, S⟩ : ∃ W, W = ((w.alloc (.cells #[.bool s1x, .slice a1x n1x c1x, .bool s1y, .slice a1y n1y c1y] 26)).alloc (.cells #[.bool s2x, .slice a2x n2x c2x, .bool s2y, .slice a2y n2y c2y] 26)).alloc (.cells #[.bool s3x, .slice a3x n3x c3x, .bool s3y, .slice a3y n3y c3y] 26) ∧ Sto w W [((w.heap.size + 1 + 1, 1), IsR s3y x3d), ((w.heap.size + 1 + 1, 0), IsR s3x x3n), ((w.heap.size + 1, 1), IsR s2y x2d), ((w.heap.size + 1, 0), IsR s2x x2n), ((w.heap.size, 1), IsR s1y x1d), ((w.heap.size, 0), IsR s1x x1n)] := ⟨_, rfl, ((((Sto.start w).new2 (w.heap.size) (by simp) s1x s1y a1x a1y n1x c1x n1y c1y 26 (IsR s1x x1n) (IsR s1y x1d) (IsR.gstb _ _) (⟨_, _, _, rfl, h1x⟩) (IsR.gstb _ _) (⟨_, _, _, rfl, h1y⟩)).new2 (w.heap.size + 1) (by simp) s2x s2y a2x a2y n2x c2x n2y c2y 26 (IsR s2x x2n) (IsR s2y x2d) (IsR.gstb _ _) (⟨_, _, _, rfl, (h2x.ext ((Ext.refl _).alloc _))⟩) (IsR.gstb _ _) (⟨_, _, _, rfl, (h2y.ext ((Ext.refl _).alloc _))⟩)).new2 (w.heap.size + 1 + 1) (by simp) s3x s3y a3x a3y n3x c3x n3y c3y 26 (IsR s3x x3n) (IsR s3y x3d) (IsR.gstb _ _) (⟨_, _, _, rfl, ((h3x.ext ((Ext.refl _).alloc _)).ext ((Ext.refl _).alloc _))⟩) (IsR.gstb _ _) (⟨_, _, _, rfl, ((h3y.ext ((Ext.refl _).alloc _)).ext ((Ext.refl _).alloc _))⟩))⟩
  clear h1x h1y h2x h2y h3x h3y
  go_enter Tryz.func9, Tryz.ntmps9
  go_upto_region 1 with (fail)
  rw [← hW]
  clear hW
  refine rgs 2 [some 15, some 7] [IsV (.bool true), IsV (.bool true)] [] ?_ ?_
  · refine Rc (cl0 (en Tryz.func12)  (fun w' hE => examplesQ_f _ (ht.ext (S.ext.trans hE)))) ?_
    refine Rc (mv (Od.lc 0 15)) ?_
    exact RgAll.nil
  intro v W1 e1 hΦ _
  replace S := S.mono e1
  have v1 : v 1 = .bool true := hΦ 1 (by decide)
  simp only [layL, Act.put, List.setIfInBounds_toArray, List.set_cons_zero, List.set_cons_succ, Nat.reduceAdd]
  rw [v1]
  clear v1 hΦ e1
  refine wpList_nil ?_
  go_upto_region 2 with (fail)
  refine rgs 2 [some 16, some 17] [IsV (.bool true), IsV (.bool false)] [] ?_ ?_
  · refine Rc (mv (Od.lit 7)) ?_
    refine Rc (nt (Od.loc 0 16)) ?_
    exact RgAll.nil
  intro v W2 e1 hΦ _
  replace S := S.mono e1
  have v1 : v 1 = .bool false := hΦ 1 (by decide)
  simp only [layL, Act.put, List.setIfInBounds_toArray, List.set_cons_zero, List.set_cons_succ, Nat.reduceAdd]
  rw [v1]
  clear v1 hΦ e1
  refine wpList_nil ?_
  go_upto_region 4 with (fail)
  have hl := hid S.lt; have hw := S.ext.size
  refine rgn 12 [some 18, some 19, some 20, some 21, some 22, some 23, some 8, some 9, some 10, none, none, none] [IsQ (IsR s1x x1n) (IsR s1y x1d), IsQ (IsI 8 qa.num) (IsI 8 ((qa.den : Int))), IsQ (IsR s2x x2n) (IsR s2y x2d), IsQ (IsI 8 qb.num) (IsI 8 ((qb.den : Int))), IsQ (IsR s3x x3n) (IsR s3y x3d), IsQ (IsI 8 qc.num) (IsI 8 ((qc.den : Int))), IsNw W2 2, IsNw W2 2, IsNw W2 2, TT, TT, TT] [6, 7, 8] [none, none, none, none, none, none, none, none, none, some (6, [IsI 8 qa.num, IsI 8 ((qa.den : Int))]), some (7, [IsI 8 qb.num, IsI 8 ((qb.den : Int))]), some (8, [IsI 8 qc.num, IsI 8 ((qc.den : Int))])] [none, none, none, none, none, none, none, none, none, some 6, some 7, some 8] 0 ?_ ?_
  · refine RcK (ldQ S 5 4 (w.heap.size) 0 (Od.lit 3) ld_RawQ rfl rfl) ?_
    refine RcK (cl2 (en Tryz.func13) (Od.lc (Φ := IsQ (IsR s1x x1n) (IsR s1y x1d)) 0 18) Od.con (fun x0 x1 w' hE d0 d1 => by { obtain rfl : x1 = .int .i64 6 := d1; exact Calls.mono (rqMade_f d0 6 (by decide)) fun _ _ h => h.ratz Ha.out (Nat.le_refl _) })) ?_
    refine RcK (ldQ S 3 2 (w.heap.size + 1) 0 (Od.lit 4) ld_RawQ rfl rfl) ?_
    refine RcK (cl2 (en Tryz.func13) (Od.lc (Φ := IsQ (IsR s2x x2n) (IsR s2y x2d)) 2 20) Od.con (fun x0 x1 w' hE d0 d1 => by { obtain rfl : x1 = .int .i64 6 := d1; exact Calls.mono (rqMade_f d0 6 (by decide)) fun _ _ h => h.ratz Hb.out (Nat.le_refl _) })) ?_
    refine RcK (ldQ S 1 0 (w.heap.size + 1 + 1) 0 (Od.lit 5) ld_RawQ rfl rfl) ?_
    refine RcK (cl2 (en Tryz.func13) (Od.lc (Φ := IsQ (IsR s3x x3n) (IsR s3y x3d)) 4 22) Od.con (fun x0 x1 w' hE d0 d1 => by { obtain rfl : x1 = .int .i64 6 := d1; exact Calls.mono (rqMade_f d0 6 (by decide)) fun _ _ h => h.ratz Hc.out (Nat.le_refl _) })) ?_
    refine RcK (alN al_Rat) ?_
    refine RcK (alN al_Rat) ?_
    refine RcK (alN al_Rat) ?_
    refine RcS 6 (sQ st_Rat (Od.lc (Φ := IsQ (IsI 8 qa.num) (IsI 8 ((qa.den : Int)))) 1 19) (IsI.gstb _ _) (IsI.gstb _ _)) ?_
    refine RcS 7 (sQ st_Rat (Od.lc (Φ := IsQ (IsI 8 qb.num) (IsI 8 ((qb.den : Int)))) 3 21) (IsI.gstb _ _) (IsI.gstb _ _)) ?_
    refine RcS 8 (sQ st_Rat (Od.lc (Φ := IsQ (IsI 8 qc.num) (IsI 8 ((qc.den : Int)))) 5 23) (IsI.gstb _ _) (IsI.gstb _ _)) ?_
    exact RgAllN.nil
  intro v W3 e1 hΦ hS hne
  replace S := S.mono e1
  obtain ⟨g8, v6, q1, S2⟩ := S.addQ (hΦ 6 (by decide) rfl) (hS 9 (by decide) _ _ rfl) hw (IsI.gstb _ _) (IsI.gstb _ _)
  replace S := S2 (ApartO.old hl.out q1); clear S2
  obtain ⟨g9, v7, q2, S2⟩ := S.addQ (hΦ 7 (by decide) rfl) (hS 10 (by decide) _ _ rfl) hw (IsI.gstb _ _) (IsI.gstb _ _)
  replace S := S2 (ApartO.cons (fun h => hne 6 7 (by decide) (by decide) (by decide) (by decide) (by decide) rfl rfl (by rw [v6, v7, h])) (ApartO.cons (fun h => hne 6 7 (by decide) (by decide) (by decide) (by decide) (by decide) rfl rfl (by rw [v6, v7, h])) (ApartO.old hl.out q2))); clear S2
  obtain ⟨g10, v8, q3, S2⟩ := S.addQ (hΦ 8 (by decide) rfl) (hS 11 (by decide) _ _ rfl) hw (IsI.gstb _ _) (IsI.gstb _ _)
  replace S := S2 (ApartO.cons (fun h => hne 7 8 (by decide) (by decide) (by decide) (by decide) (by decide) rfl rfl (by rw [v7, v8, h])) (ApartO.cons (fun h => hne 7 8 (by decide) (by decide) (by decide) (by decide) (by decide) rfl rfl (by rw [v7, v8, h])) (ApartO.cons (fun h => hne 6 8 (by decide) (by decide) (by decide) (by decide) (by decide) rfl rfl (by rw [v6, v8, h])) (ApartO.cons (fun h => hne 6 8 (by decide) (by decide) (by decide) (by decide) (by decide) rfl rfl (by rw [v6, v8, h])) (ApartO.old hl.out q3))))); clear S2
  simp only [layL, Act.put, List.setIfInBounds_toArray, List.set_cons_zero, List.set_cons_succ, Nat.reduceAdd]
  rw [v6, v7, v8]
  clear hl hw hne v6 v7 v8 hΦ hS e1
  refine wpAny_done (by kernel_rfl) ?_ _
  go_upto_region 5 with (fail)
  have hl := hid S.lt; have hw := S.ext.size
  refine rgn 10 [some 24, some 25, some 26, some 27, some 28, some 29, some 11, some 12, none, none] [IsQ (IsI 8 qa.num) (IsI 8 ((qa.den : Int))), IsQ (IsI 8 qb.num) (IsI 8 ((qb.den : Int))), IsQ (IsI 17 ((qa + qb).num)) (IsI 17 (((qa + qb).den : Int))), IsQ (IsI 8 qa.num) (IsI 8 ((qa.den : Int))), IsQ (IsI 8 qb.num) (IsI 8 ((qb.den : Int))), IsQ (IsI 16 ((qa * qb).num)) (IsI 16 (((qa * qb).den : Int))), IsNw W3 2, IsNw W3 2, TT, TT] [6, 7] [none, none, none, none, none, none, none, none, some (6, [IsI 17 ((qa + qb).num), IsI 17 (((qa + qb).den : Int))]), some (7, [IsI 16 ((qa * qb).num), IsI 16 (((qa * qb).den : Int))])] [none, none, none, none, none, none, none, none, some 6, some 7] 0 ?_ ?_
  · refine RcK (ldQ S 5 4 (g8) 0 (Od.lit 8) ld_Rat rfl rfl) ?_
    refine RcK (ldQ S 3 2 (g9) 0 (Od.lit 9) ld_Rat rfl rfl) ?_
    refine RcK (cl2 (en Tryz.func37) (Od.lc (Φ := IsQ (IsI 8 qa.num) (IsI 8 ((qa.den : Int)))) 0 24) (Od.lc (Φ := IsQ (IsI 8 qb.num) (IsI 8 ((qb.den : Int)))) 1 25) (fun x0 x1 w' hE d0 d1 => qAdd_f d0 d1 (by decide) (by decide))) ?_
    refine RcK (ldQ S 5 4 (g8) 0 (Od.lit 8) ld_Rat rfl rfl) ?_
    refine RcK (ldQ S 3 2 (g9) 0 (Od.lit 9) ld_Rat rfl rfl) ?_
    refine RcK (cl2 (en Tryz.func38) (Od.lc (Φ := IsQ (IsI 8 qa.num) (IsI 8 ((qa.den : Int)))) 3 27) (Od.lc (Φ := IsQ (IsI 8 qb.num) (IsI 8 ((qb.den : Int)))) 4 28) (fun x0 x1 w' hE d0 d1 => qMul_f d0 d1 (by decide) (by decide))) ?_
    refine RcK (alN al_Rat) ?_
    refine RcK (alN al_Rat) ?_
    refine RcS 6 (sQ st_Rat (Od.lc (Φ := IsQ (IsI 17 ((qa + qb).num)) (IsI 17 (((qa + qb).den : Int)))) 2 26) (IsI.gstb _ _) (IsI.gstb _ _)) ?_
    refine RcS 7 (sQ st_Rat (Od.lc (Φ := IsQ (IsI 16 ((qa * qb).num)) (IsI 16 (((qa * qb).den : Int)))) 5 29) (IsI.gstb _ _) (IsI.gstb _ _)) ?_
    exact RgAllN.nil
  intro v W4 e1 hΦ hS hne
  replace S := S.mono e1
  obtain ⟨g11, v6, q4, S2⟩ := S.addQ (hΦ 6 (by decide) rfl) (hS 8 (by decide) _ _ rfl) hw (IsI.gstb _ _) (IsI.gstb _ _)
  replace S := S2 (ApartO.old hl.out q4); clear S2
  obtain ⟨g12, v7, q5, S2⟩ := S.addQ (hΦ 7 (by decide) rfl) (hS 9 (by decide) _ _ rfl) hw (IsI.gstb _ _) (IsI.gstb _ _)
  replace S := S2 (ApartO.cons (fun h => hne 6 7 (by decide) (by decide) (by decide) (by decide) (by decide) rfl rfl (by rw [v6, v7, h])) (ApartO.cons (fun h => hne 6 7 (by decide) (by decide) (by decide) (by decide) (by decide) rfl rfl (by rw [v6, v7, h])) (ApartO.old hl.out q5))); clear S2
  simp only [layL, Act.put, List.setIfInBounds_toArray, List.set_cons_zero, List.set_cons_succ, Nat.reduceAdd]
  rw [v6, v7]
  clear hl hw hne v6 v7 hΦ hS e1
  refine wpAny_done (by kernel_rfl) ?_ _
  go_upto_region 6 with (fail)
  refine rg 22 [some 30, some 31, some 32, some 33, some 34, some 35, some 36, some 37, some 38, some 39, some 40, some 41, some 42, some 43, some 44, some 45, some 46, some 47, some 48, some 49, some 50, some 51] [IsQ (IsI 17 ((qa + qb).num)) (IsI 17 (((qa + qb).den : Int))), IsQ (IsI 8 qb.num) (IsI 8 ((qb.den : Int))), IsQ (IsI 8 qa.num) (IsI 8 ((qa.den : Int))), IsQ (IsI 17 ((qb + qa).num)) (IsI 17 (((qb + qa).den : Int))), IsV (.bool true), IsV (.bool false), IsV (.bool false), IsQ (IsI 16 ((qa * qb).num)) (IsI 16 (((qa * qb).den : Int))), IsQ (IsI 8 qb.num) (IsI 8 ((qb.den : Int))), IsQ (IsI 8 qa.num) (IsI 8 ((qa.den : Int))), IsQ (IsI 16 ((qb * qa).num)) (IsI 16 (((qb * qa).den : Int))), IsV (.bool true), IsV (.bool false), IsV (.bool false), IsV (.bool false), IsQ (IsI 17 ((qa + qb).num)) (IsI 17 (((qa + qb).den : Int))), IsQ (IsI 8 qb.num) (IsI 8 ((qb.den : Int))), IsQ (IsI 26 ((qa + qb - qb).num)) (IsI 26 (((qa + qb - qb).den : Int))), IsQ (IsI 8 qa.num) (IsI 8 ((qa.den : Int))), IsV (.bool true), IsV (.bool false), IsV (.bool false)] [] 0 ?_ ?_
  · refine Rc (ldQ S 3 2 (g11) 0 (Od.lit 11) ld_Rat rfl rfl) ?_
    refine Rc (ldQ S 7 6 (g9) 0 (Od.lit 9) ld_Rat rfl rfl) ?_
    refine Rc (ldQ S 9 8 (g8) 0 (Od.lit 8) ld_Rat rfl rfl) ?_
    refine Rc (cl2 (en Tryz.func37) (Od.lc (Φ := IsQ (IsI 8 qb.num) (IsI 8 ((qb.den : Int)))) 1 31) (Od.lc (Φ := IsQ (IsI 8 qa.num) (IsI 8 ((qa.den : Int)))) 2 32) (fun x0 x1 w' hE d0 d1 => qAdd_f d0 d1 (by decide) (by decide))) ?_
    refine Rc (cl2 (en Tryz.func18) (Od.lc (Φ := IsQ (IsI 17 ((qa + qb).num)) (IsI 17 (((qa + qb).den : Int)))) 0 30) (Od.lc (Φ := IsQ (IsI 17 ((qb + qa).num)) (IsI 17 (((qb + qa).den : Int)))) 3 33) (fun x0 x1 w' hE d0 d1 => rqSame_eq d0 d1 (by decide) (Rat.add_comm _ _))) ?_
    refine Rc (nt (Od.loc 4 34)) ?_
    refine Rc (mv (Od.lc 5 35)) ?_
    refine RcG 6 36 false (ldQ S 1 0 (g12) 0 (Od.lit 12) ld_Rat rfl rfl) ?_
    refine RcG 6 36 false (ldQ S 7 6 (g9) 0 (Od.lit 9) ld_Rat rfl rfl) ?_
    refine RcG 6 36 false (ldQ S 9 8 (g8) 0 (Od.lit 8) ld_Rat rfl rfl) ?_
    refine RcG 6 36 false (cl2 (en Tryz.func38) (Od.lc (Φ := IsQ (IsI 8 qb.num) (IsI 8 ((qb.den : Int)))) 8 38) (Od.lc (Φ := IsQ (IsI 8 qa.num) (IsI 8 ((qa.den : Int)))) 9 39) (fun x0 x1 w' hE d0 d1 => qMul_f d0 d1 (by decide) (by decide))) ?_
    refine RcG 6 36 false (cl2 (en Tryz.func18) (Od.lc (Φ := IsQ (IsI 16 ((qa * qb).num)) (IsI 16 (((qa * qb).den : Int)))) 7 37) (Od.lc (Φ := IsQ (IsI 16 ((qb * qa).num)) (IsI 16 (((qb * qa).den : Int)))) 10 40) (fun x0 x1 w' hE d0 d1 => rqSame_eq d0 d1 (by decide) (Rat.mul_comm _ _))) ?_
    refine RcG 6 36 false (nt (Od.loc 11 41)) ?_
    refine Rc (pk (Od.loc 6 36) (Od.lc 12 42)) ?_
    refine Rc (mv (Od.lc 13 43)) ?_
    refine RcG 14 44 false (ldQ S 3 2 (g11) 0 (Od.lit 11) ld_Rat rfl rfl) ?_
    refine RcG 14 44 false (ldQ S 7 6 (g9) 0 (Od.lit 9) ld_Rat rfl rfl) ?_
    refine RcG 14 44 false (cl2 (en Tryz.func36) (Od.lc (Φ := IsQ (IsI 17 ((qa + qb).num)) (IsI 17 (((qa + qb).den : Int)))) 15 45) (Od.lc (Φ := IsQ (IsI 8 qb.num) (IsI 8 ((qb.den : Int)))) 16 46) (fun x0 x1 w' hE d0 d1 => qSub_f d0 d1 (by decide) (by decide))) ?_
    refine RcG 14 44 false (ldQ S 9 8 (g8) 0 (Od.lit 8) ld_Rat rfl rfl) ?_
    refine RcG 14 44 false (cl2 (en Tryz.func18) (Od.lc (Φ := IsQ (IsI 26 ((qa + qb - qb).num)) (IsI 26 (((qa + qb - qb).den : Int)))) 17 47) (Od.lc (Φ := IsQ (IsI 8 qa.num) (IsI 8 ((qa.den : Int)))) 18 48) (fun x0 x1 w' hE d0 d1 => rqSame_eq d0 d1 (by decide) (ratx_sub _ _))) ?_
    refine RcG 14 44 false (nt (Od.loc 19 49)) ?_
    refine Rc (pk (Od.loc 14 44) (Od.lc 20 50)) ?_
    exact RgAll.nil
  intro v W5 e1 hΦ _
  replace S := S.mono e1
  have v21 : v 21 = .bool false := hΦ 21 (by decide)
  simp only [layL, Act.put, List.setIfInBounds_toArray, List.set_cons_zero, List.set_cons_succ, Nat.reduceAdd]
  rw [v21]
  clear v21 hΦ e1
  refine wpAny_done (by kernel_rfl) ?_ _
  go_upto_region 8 with (fail)
  refine rg 22 [some 52, some 53, some 54, some 55, some 56, some 57, some 58, some 59, some 60, some 61, some 62, some 63, some 64, some 65, some 66, some 67, some 68, some 69, some 70, some 71, some 72, some 73] [IsQ (IsI 17 ((qa + qb).num)) (IsI 17 (((qa + qb).den : Int))), IsQ (IsI 8 qc.num) (IsI 8 ((qc.den : Int))), IsQ (IsI 26 ((qa + qb + qc).num)) (IsI 26 (((qa + qb + qc).den : Int))), IsQ (IsI 8 qa.num) (IsI 8 ((qa.den : Int))), IsQ (IsI 8 qb.num) (IsI 8 ((qb.den : Int))), IsQ (IsI 8 qc.num) (IsI 8 ((qc.den : Int))), IsQ (IsI 17 ((qb + qc).num)) (IsI 17 (((qb + qc).den : Int))), IsQ (IsI 26 ((qa + (qb + qc)).num)) (IsI 26 (((qa + (qb + qc)).den : Int))), IsV (.bool true), IsV (.bool false), IsV (.bool false), IsQ (IsI 16 ((qa * qb).num)) (IsI 16 (((qa * qb).den : Int))), IsQ (IsI 8 qc.num) (IsI 8 ((qc.den : Int))), IsQ (IsI 24 ((qa * qb * qc).num)) (IsI 24 (((qa * qb * qc).den : Int))), IsQ (IsI 8 qa.num) (IsI 8 ((qa.den : Int))), IsQ (IsI 8 qb.num) (IsI 8 ((qb.den : Int))), IsQ (IsI 8 qc.num) (IsI 8 ((qc.den : Int))), IsQ (IsI 16 ((qb * qc).num)) (IsI 16 (((qb * qc).den : Int))), IsQ (IsI 24 ((qa * (qb * qc)).num)) (IsI 24 (((qa * (qb * qc)).den : Int))), IsV (.bool true), IsV (.bool false), IsV (.bool false)] [] 0 ?_ ?_
  · refine Rc (ldQ S 3 2 (g11) 0 (Od.lit 11) ld_Rat rfl rfl) ?_
    refine Rc (ldQ S 5 4 (g10) 0 (Od.lit 10) ld_Rat rfl rfl) ?_
    refine Rc (cl2 (en Tryz.func37) (Od.lc (Φ := IsQ (IsI 17 ((qa + qb).num)) (IsI 17 (((qa + qb).den : Int)))) 0 52) (Od.lc (Φ := IsQ (IsI 8 qc.num) (IsI 8 ((qc.den : Int)))) 1 53) (fun x0 x1 w' hE d0 d1 => qAdd_f d0 d1 (by decide) (by decide))) ?_
    refine Rc (ldQ S 9 8 (g8) 0 (Od.lit 8) ld_Rat rfl rfl) ?_
    refine Rc (ldQ S 7 6 (g9) 0 (Od.lit 9) ld_Rat rfl rfl) ?_
    refine Rc (ldQ S 5 4 (g10) 0 (Od.lit 10) ld_Rat rfl rfl) ?_
    refine Rc (cl2 (en Tryz.func37) (Od.lc (Φ := IsQ (IsI 8 qb.num) (IsI 8 ((qb.den : Int)))) 4 56) (Od.lc (Φ := IsQ (IsI 8 qc.num) (IsI 8 ((qc.den : Int)))) 5 57) (fun x0 x1 w' hE d0 d1 => qAdd_f d0 d1 (by decide) (by decide))) ?_
    refine Rc (cl2 (en Tryz.func37) (Od.lc (Φ := IsQ (IsI 8 qa.num) (IsI 8 ((qa.den : Int)))) 3 55) (Od.lc (Φ := IsQ (IsI 17 ((qb + qc).num)) (IsI 17 (((qb + qc).den : Int)))) 6 58) (fun x0 x1 w' hE d0 d1 => qAdd_f d0 d1 (by decide) (by decide))) ?_
    refine Rc (cl2 (en Tryz.func18) (Od.lc (Φ := IsQ (IsI 26 ((qa + qb + qc).num)) (IsI 26 (((qa + qb + qc).den : Int)))) 2 54) (Od.lc (Φ := IsQ (IsI 26 ((qa + (qb + qc)).num)) (IsI 26 (((qa + (qb + qc)).den : Int)))) 7 59) (fun x0 x1 w' hE d0 d1 => rqSame_eq d0 d1 (by decide) (Rat.add_assoc _ _ _))) ?_
    refine Rc (nt (Od.loc 8 60)) ?_
    refine Rc (mv (Od.lc 9 61)) ?_
    refine RcG 10 62 false (ldQ S 1 0 (g12) 0 (Od.lit 12) ld_Rat rfl rfl) ?_
    refine RcG 10 62 false (ldQ S 5 4 (g10) 0 (Od.lit 10) ld_Rat rfl rfl) ?_
    refine RcG 10 62 false (cl2 (en Tryz.func38) (Od.lc (Φ := IsQ (IsI 16 ((qa * qb).num)) (IsI 16 (((qa * qb).den : Int)))) 11 63) (Od.lc (Φ := IsQ (IsI 8 qc.num) (IsI 8 ((qc.den : Int)))) 12 64) (fun x0 x1 w' hE d0 d1 => qMul_f d0 d1 (by decide) (by decide))) ?_
    refine RcG 10 62 false (ldQ S 9 8 (g8) 0 (Od.lit 8) ld_Rat rfl rfl) ?_
    refine RcG 10 62 false (ldQ S 7 6 (g9) 0 (Od.lit 9) ld_Rat rfl rfl) ?_
    refine RcG 10 62 false (ldQ S 5 4 (g10) 0 (Od.lit 10) ld_Rat rfl rfl) ?_
    refine RcG 10 62 false (cl2 (en Tryz.func38) (Od.lc (Φ := IsQ (IsI 8 qb.num) (IsI 8 ((qb.den : Int)))) 15 67) (Od.lc (Φ := IsQ (IsI 8 qc.num) (IsI 8 ((qc.den : Int)))) 16 68) (fun x0 x1 w' hE d0 d1 => qMul_f d0 d1 (by decide) (by decide))) ?_
    refine RcG 10 62 false (cl2 (en Tryz.func38) (Od.lc (Φ := IsQ (IsI 8 qa.num) (IsI 8 ((qa.den : Int)))) 14 66) (Od.lc (Φ := IsQ (IsI 16 ((qb * qc).num)) (IsI 16 (((qb * qc).den : Int)))) 17 69) (fun x0 x1 w' hE d0 d1 => qMul_f d0 d1 (by decide) (by decide))) ?_
    refine RcG 10 62 false (cl2 (en Tryz.func18) (Od.lc (Φ := IsQ (IsI 24 ((qa * qb * qc).num)) (IsI 24 (((qa * qb * qc).den : Int)))) 13 65) (Od.lc (Φ := IsQ (IsI 24 ((qa * (qb * qc)).num)) (IsI 24 (((qa * (qb * qc)).den : Int)))) 18 70) (fun x0 x1 w' hE d0 d1 => rqSame_eq d0 d1 (by decide) (Rat.mul_assoc _ _ _))) ?_
    refine RcG 10 62 false (nt (Od.loc 19 71)) ?_
    refine Rc (pk (Od.loc 10 62) (Od.lc 20 72)) ?_
    exact RgAll.nil
  intro v W6 e1 hΦ _
  replace S := S.mono e1
  have v21 : v 21 = .bool false := hΦ 21 (by decide)
  simp only [layL, Act.put, List.setIfInBounds_toArray, List.set_cons_zero, List.set_cons_succ, Nat.reduceAdd]
  rw [v21]
  clear v21 hΦ e1
  refine wpAny_done (by kernel_rfl) ?_ _
  go_upto_region 10 with (fail)
  refine rg 12 [some 74, some 75, some 76, some 77, some 78, some 79, some 80, some 81, some 82, some 83, some 84, some 85] [IsQ (IsI 17 ((qa + qb).num)) (IsI 17 (((qa + qb).den : Int))), IsQ (IsI 8 qc.num) (IsI 8 ((qc.den : Int))), IsQ (IsI 25 (((qa + qb) * qc).num)) (IsI 25 ((((qa + qb) * qc).den : Int))), IsQ (IsI 8 qa.num) (IsI 8 ((qa.den : Int))), IsQ (IsI 8 qc.num) (IsI 8 ((qc.den : Int))), IsQ (IsI 16 ((qa * qc).num)) (IsI 16 (((qa * qc).den : Int))), IsQ (IsI 8 qb.num) (IsI 8 ((qb.den : Int))), IsQ (IsI 8 qc.num) (IsI 8 ((qc.den : Int))), IsQ (IsI 16 ((qb * qc).num)) (IsI 16 (((qb * qc).den : Int))), IsQ (IsI 33 ((qa * qc + qb * qc).num)) (IsI 33 (((qa * qc + qb * qc).den : Int))), IsV (.bool true), IsV (.bool false)] [] 0 ?_ ?_
  · refine Rc (ldQ S 3 2 (g11) 0 (Od.lit 11) ld_Rat rfl rfl) ?_
    refine Rc (ldQ S 5 4 (g10) 0 (Od.lit 10) ld_Rat rfl rfl) ?_
    refine Rc (cl2 (en Tryz.func38) (Od.lc (Φ := IsQ (IsI 17 ((qa + qb).num)) (IsI 17 (((qa + qb).den : Int)))) 0 74) (Od.lc (Φ := IsQ (IsI 8 qc.num) (IsI 8 ((qc.den : Int)))) 1 75) (fun x0 x1 w' hE d0 d1 => qMul_f d0 d1 (by decide) (by decide))) ?_
    refine Rc (ldQ S 9 8 (g8) 0 (Od.lit 8) ld_Rat rfl rfl) ?_
    refine Rc (ldQ S 5 4 (g10) 0 (Od.lit 10) ld_Rat rfl rfl) ?_
    refine Rc (cl2 (en Tryz.func38) (Od.lc (Φ := IsQ (IsI 8 qa.num) (IsI 8 ((qa.den : Int)))) 3 77) (Od.lc (Φ := IsQ (IsI 8 qc.num) (IsI 8 ((qc.den : Int)))) 4 78) (fun x0 x1 w' hE d0 d1 => qMul_f d0 d1 (by decide) (by decide))) ?_
    refine Rc (ldQ S 7 6 (g9) 0 (Od.lit 9) ld_Rat rfl rfl) ?_
    refine Rc (ldQ S 5 4 (g10) 0 (Od.lit 10) ld_Rat rfl rfl) ?_
    refine Rc (cl2 (en Tryz.func38) (Od.lc (Φ := IsQ (IsI 8 qb.num) (IsI 8 ((qb.den : Int)))) 6 80) (Od.lc (Φ := IsQ (IsI 8 qc.num) (IsI 8 ((qc.den : Int)))) 7 81) (fun x0 x1 w' hE d0 d1 => qMul_f d0 d1 (by decide) (by decide))) ?_
    refine Rc (cl2 (en Tryz.func37) (Od.lc (Φ := IsQ (IsI 16 ((qa * qc).num)) (IsI 16 (((qa * qc).den : Int)))) 5 79) (Od.lc (Φ := IsQ (IsI 16 ((qb * qc).num)) (IsI 16 (((qb * qc).den : Int)))) 8 82) (fun x0 x1 w' hE d0 d1 => qAdd_f d0 d1 (by decide) (by decide))) ?_
    refine Rc (cl2 (en Tryz.func18) (Od.lc (Φ := IsQ (IsI 25 (((qa + qb) * qc).num)) (IsI 25 ((((qa + qb) * qc).den : Int)))) 2 76) (Od.lc (Φ := IsQ (IsI 33 ((qa * qc + qb * qc).num)) (IsI 33 (((qa * qc + qb * qc).den : Int)))) 9 83) (fun x0 x1 w' hE d0 d1 => rqSame_eq d0 d1 (by decide) (Rat.add_mul _ _ _))) ?_
    refine Rc (nt (Od.loc 10 84)) ?_
    exact RgAll.nil
  intro v W7 e1 hΦ _
  replace S := S.mono e1
  have v11 : v 11 = .bool false := hΦ 11 (by decide)
  simp only [layL, Act.put, List.setIfInBounds_toArray, List.set_cons_zero, List.set_cons_succ, Nat.reduceAdd]
  rw [v11]
  clear v11 hΦ e1
  refine wpAny_done (by kernel_rfl) ?_ _
  go_upto_region 12 with (fail)
  have hl := hid S.lt; have hw := S.ext.size
  refine rgs 7 [some 87, some 88, some 89, some 86, some 90, some 91, some 13] [IsQ (IsI 16 ((qa * qb).num)) (IsI 16 (((qa * qb).den : Int))), IsQ (IsI 8 qb.num) (IsI 8 ((qb.den : Int))), IsT2 (IsQ (IsI 26 ((qa * qb / qb).num)) (IsI 26 (((qa * qb / qb).den : Int)))) (IsV (.int .i64 0)), IsT2 (IsQ (IsI 26 ((qa * qb / qb).num)) (IsI 26 (((qa * qb / qb).den : Int)))) (IsV (.int .i64 0)), IsQ (IsI 26 ((qa * qb / qb).num)) (IsI 26 (((qa * qb / qb).den : Int))), IsV (.int .i64 0), IsBo W7 2] [6] ?_ ?_
  · refine Rc (ldQ S 1 0 (g12) 0 (Od.lit 12) ld_Rat rfl rfl) ?_
    refine Rc (ldQ S 7 6 (g9) 0 (Od.lit 9) ld_Rat rfl rfl) ?_
    refine Rc (cl2 (en Tryz.func50) (Od.lc (Φ := IsQ (IsI 16 ((qa * qb).num)) (IsI 16 (((qa * qb).den : Int)))) 0 87) (Od.lc (Φ := IsQ (IsI 8 qb.num) (IsI 8 ((qb.den : Int)))) 1 88) (fun x0 x1 w' hE d0 d1 => qDiv_f d0 d1 (by decide) (by decide) HZ.out)) ?_
    refine Rc (mv (Od.lc 2 89)) ?_
    refine Rc (ex (Od.loc 3 86) t20) ?_
    refine Rc (ex (Od.loc 3 86) t21) ?_
    refine Rc (al al_Rat) ?_
    exact RgAll.nil
  intro v W8 e1 hΦ _
  replace S := S.mono e1
  have h90 := hΦ 4 (by decide)
  have v5 : v 5 = .int .i64 0 := hΦ 5 (by decide)
  obtain ⟨g13, v6, q7, b6, _⟩ := (hΦ 6 (by decide) : IsBo W7 2 (v 6) W8)
  replace S := S.addN 2 (ApartO.old hl.out q7) (Nat.le_trans hw q7) b6
  simp only [newF, List.cons_append, List.nil_append] at S
  simp only [layL, Act.put, List.setIfInBounds_toArray, List.set_cons_zero, List.set_cons_succ, Nat.reduceAdd]
  rw [v5, v6]
  clear b6 hl hw v5 v6 hΦ e1
  try simp only [List.drop_succ_cons, List.drop_zero]
  (with_reducible refine stL ?_ (by rfl)); intro KK hKK; refine stQ S 1 0 (g13) 0 h90 (IsI.gstb _ _) (IsI.gstb _ _) st_Rat (fun W9 S2 G2 => hKK _ _ ?_) rfl rfl
  replace S := S2; clear S2 G2 hKK KK h90
  simp only [List.set_cons_zero, List.set_cons_succ] at S
  refine wpList_step fun K hK => ?_; go_simp; refine hK _ _ ?_; clear hK K
  refine wpList_nil ?_
  go_upto_region 13 with (fail)
  refine rgs 3 [some 92, some 93, some 94] [IsQ (IsI 8 qb.num) (IsI 8 ((qb.den : Int))), IsV (.int .i64 sg), IsV (.bool false)] [] ?_ ?_
  · refine Rc (ldQ S 9 8 (g9) 0 (Od.lit 9) ld_Rat rfl rfl) ?_
    refine Rc (cl1 (en Tryz.func35) (Od.lc (Φ := IsQ (IsI 8 qb.num) (IsI 8 ((qb.den : Int)))) 0 92) (fun x0 w' hE d0 => Calls.mono (qSign_f d0) fun _ _ h => h.int HS.out)) ?_
    refine Rc (bn (r := .bool false) (Od.loc 1 93) Od.con (hr := fun w => by have hx9 := HS1.out; go_simp)) ?_
    exact RgAll.nil
  intro v W10 e1 hΦ _
  replace S := S.mono e1
  have v2 : v 2 = .bool false := hΦ 2 (by decide)
  simp only [layL, Act.put, List.setIfInBounds_toArray, List.set_cons_zero, List.set_cons_succ, Nat.reduceAdd]
  rw [v2]
  clear v2 hΦ e1
  refine wpList_nil ?_
  go_upto_region 15 with (fail)
  refine rgs 11 [some 100, some 101, some 102, some 103, some 104, some 105, some 106, some 107, some 108, some 109, some 6] [IsV (.int .i64 0), IsV (.bool true), IsV (.bool true), IsQ (IsI 26 ((qa * qb / qb).num)) (IsI 26 (((qa * qb / qb).den : Int))), IsQ (IsI 8 qa.num) (IsI 8 ((qa.den : Int))), IsV (.bool true), IsV (.bool true), IsV (.bool true), IsV (.bool true), IsV (.bool true), IsV (.bool true)] [] ?_ ?_
  · refine Rc (mv (Od.lit 14)) ?_
    refine Rc (bn (r := .bool true) (Od.loc 0 100) Od.con (hr := fun w => by go_simp)) ?_
    refine Rc (mv (Od.lc 1 101)) ?_
    refine RcG 2 102 true (ldQ S 1 0 (g13) 0 (Od.lit 13) ld_Rat rfl rfl) ?_
    refine RcG 2 102 true (ldQ S 11 10 (g8) 0 (Od.lit 8) ld_Rat rfl rfl) ?_
    refine RcG 2 102 true (cl2 (en Tryz.func18) (Od.lc (Φ := IsQ (IsI 26 ((qa * qb / qb).num)) (IsI 26 (((qa * qb / qb).den : Int)))) 3 103) (Od.lc (Φ := IsQ (IsI 8 qa.num) (IsI 8 ((qa.den : Int)))) 4 104) (fun x0 x1 w' hE d0 d1 => rqSame_eq d0 d1 (by decide) (ratx_div _ HZ.out))) ?_
    refine Rc (pk (Od.loc 2 102) (Od.lc 5 105)) ?_
    refine Rc (mv (Od.lc 6 106)) ?_
    refine RcG 7 107 true (mv (Od.lit 7)) ?_
    refine Rc (pk (Od.loc 7 107) (Od.lc 8 108)) ?_
    refine Rc (mv (Od.lc 9 109)) ?_
    exact RgAll.nil
  intro v W11 e1 hΦ _
  replace S := S.mono e1
  have v10 : v 10 = .bool true := hΦ 10 (by decide)
  simp only [layL, Act.put, List.setIfInBounds_toArray, List.set_cons_zero, List.set_cons_succ, Nat.reduceAdd]
  rw [v10]
  clear v10 hΦ e1
  refine wpList_nil ?_
  go_wp2_with fail
  exact bodyPost_ret (v := .bool true) (by simp [results, Tryz.results9, go_sem]) rfl (⟨_, rfl, S.ext, rfl⟩)

theorem Field_c (w : World) (s1x s1y s2x s2y s3x s3y : Bool) (a1x a1y a2x a2y a3x a3y : Option Addr) (n1x n1y c1x c1y n2x n2y c2x c2y n3x n3y c3x c3y : Nat) (x1n x1d x2n x2d x3n x3d : List Nat) (h1x : Wd w a1x n1x c1x x1n) (h1y : Wd w a1y n1y c1y x1d) (h2x : Wd w a2x n2x c2x x2n) (h2y : Wd w a2y n2y c2y x2d) (h3x : Wd w a3x n3x c3x x3n) (h3y : Wd w a3y n3y c3y x3d) (ht : Tab w) :
    Calls Tryz.prog 9 #[.agg #[.bool s1x, .slice a1x n1x c1x, .bool s1y, .slice a1y n1y c1y], .agg #[.bool s2x, .slice a2x n2x c2x, .bool s2y, .slice a2y n2y c2y], .agg #[.bool s3x, .slice a3x n3x c3x, .bool s3y, .slice a3y n3y c3y]] w (Ret w (IsV (.bool true))) := by
  by_cases hz : madeQ s2x s2y x2n x2d 6 = 0
  · exact Field_0 w s1x s1y s2x s2y s3x s3y a1x a1y a2x a2y a3x a3y n1x n1y c1x c1y n2x n2y c2x c2y n3x n3y c3x c3y x1n x1d x2n x2d x3n x3d h1x h1y h2x h2y h3x h3y ht _ _ _ rfl rfl rfl hz
  · exact Field_1 w s1x s1y s2x s2y s3x s3y a1x a1y a2x a2y a3x a3y n1x n1y c1x c1y n2x n2y c2x c2y n3x n3y c3x c3y x1n x1d x2n x2d x3n x3d h1x h1y h2x h2y h3x h3y ht _ _ _ rfl rfl rfl hz
end Go.Proofs.YtcgdkfadcglekaaGreatDoor
namespace Go.Proofs.YtcgdkfadcglekaaGreatDoor
open Go Go.RowKit Go.ChangeShapes Go.WideShapes Go.ChangeAt

set_option maxRecDepth 100000 in
theorem rationalField_lifted (os : Os) (started : os.Started) (H : Type) (enc : TypeId × Value → H) :
    ReturnsInHanded {} Tryz.checked os 9 .any (fun w args => (Rows.rationalFieldSpec.pre enc Tryz.prog Tryz.f9 [] false w args ∧ laidMetH Tryz.prog laid3 w) ∧ sizedMet enc Tryz.prog Tryz.f9 (OpenSpec.ofChange Rows.rationalFieldSpec) false w args)
      (Rows.rationalFieldSpec.post enc Tryz.prog Tryz.f9 false true false false) := by
  refine returnsInHanded_of_change_and (C := Tryz.checked) (X := fun w _ => laidMetH Tryz.prog laid3 w) (fun _ _ _ hh h => h.of_heap hh) own started (by kernel_rfl) Tryz.func9
    (ChangeSpec.witness_shaped (enc := enc) (C := Tryz.checked) (os := os) (X := fun w _ => laidMetH Tryz.prog laid3 w) false (World.doorLaid Tryz.prog 2000 os) #[.agg #[.bool false, .slice none 0 0, .bool false, .slice none 0 0], .agg #[.bool false, .slice none 0 0, .bool false, .slice none 0 0], .agg #[.bool false, .slice none 0 0, .bool false, .slice none 0 0]] 8 rfl (World.shaped_of_RefB (by kernel_rfl) (by kernel_rfl)) (by kernel_rfl) (by kernel_rfl) (by kernel_rfl) (door_met os _)) ?_
  intro W base args ds gs before hval0 hW _ _ hL _
  have hval : ∀ (j : Nat) t v, Tryz.f9.params[j]? = some t → args[j]? = some v → Value.okWide Tryz.prog W .any base t v := hval0
  have hW' := hW
  obtain ⟨p, q, hA0, hV, rfl, hfz, hnd⟩ := hW
  have hA : DataW.TrodAll enc Tryz.prog W 0 (fun _ => true) true Tryz.f9.params.toList args.toList ds p := hA0
  rw [Tryz.params9] at hA hval
  obtain ⟨v1, v2, v3, d1, d2, d3, p1, p2, p3, rfl, rfl, rfl, k1, k2, k3⟩ := trodAll_three hA
  obtain ⟨rfl, rfl⟩ := trodVars_none hV
  obtain ⟨s1x, a1x, n1x, c1x, x1n, s1y, a1y, n1y, c1y, x1d, rfl, w1x, w1y, r1⟩ := rawq_open (hval 0 26 v1 rfl rfl) k1
  obtain ⟨s2x, a2x, n2x, c2x, x2n, s2y, a2y, n2y, c2y, x2d, rfl, w2x, w2y, r2⟩ := rawq_open (hval 1 26 v2 rfl rfl) k2
  obtain ⟨s3x, a3x, n3x, c3x, x3n, s3y, a3y, n3y, c3y, x3d, rfl, w3x, w3y, r3⟩ := rawq_open (hval 2 26 v3 rfl rfl) k3
  clear hA0 hval0
  refine (Field_c W s1x s1y s2x s2y s3x s3y a1x a1y a2x a2y a3x a3y n1x n1y c1x c1y n2x n2y c2x c2y n3x n3y c3x c3y x1n x1d x2n x2d x3n x3d w1x w1y w2x w2y w3x w3y (tab_of_laid hL)).mono fun e W' ⟨x, he, hb, hx⟩ => ?_
  have hx : x = .bool true := hx
  subst he; subst hx
  refine ⟨_, rfl, post_of_below (pa := p1 ++ (p2 ++ p3)) (pv := []) hW' (fun _ _ _ => trodAll_mk1 (shut_bool Tryz.underlying4 true)) (fun sp hsp => ?_) (fun _ _ => rfl) (by simp) hb (ok_one (by kernel_rfl) rfl (okWide_bool_mk Tryz.underlying4 _))⟩
  rw [Tryz.params9]
  exact trodAll_mk3 (r1 W' sp hb fun q hq => hsp q (by simp [hq])) (r2 W' sp hb fun q hq => hsp q (by simp [hq])) (r3 W' sp hb fun q hq => hsp q (by simp [hq]))

theorem rationalField_row : Rows.RationalFieldSaid :=
  OpenClaim.holds_of_wide 9 Tryz.f9 rfl rfl rfl rfl rfl rfl rfl ⟨rfl, rfl, rfl, rfl, rfl⟩ rfl rfl rfl rfl rfl (by kernel_rfl) Tryz.func9 (by kernel_rfl)
    (of_decide_eq_true (by kernel_rfl)) (by unfold Func.isWrapper; first | (rw [if_pos (by decide +kernel)]; kernel_rfl) | (rw [if_neg (by decide +kernel)]; exact ⟨rfl, rfl⟩))
    (fun os started H enc _ => rationalField_lifted os started H enc)

set_option maxRecDepth 100000 in
/-- The tied card. -/
theorem rationalField_holds : Rows.RationalFieldCardSaid :=
  Claim7.holds_tied_plain_at .later [] [.data, .data, .data] true Rows.rationalFieldCard.stood.harness false
    rationalField_row (fun _ h => by cases h) (by kernel_rfl) (fun _ h => by cases h) rationalField_row_tie rfl ⟨rfl, rfl⟩ (by kernel_rfl) rfl
    (fun f fn hf hfn => by
      obtain rfl : f = 9 := Option.some.inj ((show Tryz.prog.funcNamed "algorist/algoristlaw02.RationalField" = some 9 by kernel_rfl).symm.trans hf) |>.symm
      obtain rfl : fn = Tryz.f9 := (Option.some.inj (Tryz.func9.symm.trans hfn)).symm
      refine ⟨by kernel_rfl, fun j t ht => ?_⟩
      rw [Tryz.params9] at ht
      have h3 : t = 26 := by
        rcases j with _ | _ | _ | j
        · simpa using ht.symm
        · simpa using ht.symm
        · simpa using ht.symm
        · simp at ht
      subst h3
      exact (show Tryz.prog.wantsStandIn 26 = false by kernel_rfl))
    (by kernel_rfl)
#print axioms rationalField_holds
end Go.Proofs.YtcgdkfadcglekaaGreatDoor
