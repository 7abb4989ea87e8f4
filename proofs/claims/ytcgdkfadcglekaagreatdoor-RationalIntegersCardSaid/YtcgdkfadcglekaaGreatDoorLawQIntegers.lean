/-
  The statement RationalIntegers: for every 2 descriptions of fractions the law answers true, and the descriptions read behind the call as they read before. The listed package variables hold what the program's text lays (the card ties them).
-/
import Derived.Test.YtcgdkfadcglekaaGreatDoorQe
import Derived.Test.YtcgdkfadcglekaaGreatDoorReadQ
import Derived.Test.YtcgdkfadcglekaaGreatDoorTie
import Derived.Test.YtcgdkfadcglekaaGreatDoorCards
import Derived.SevenTiedAt
namespace Go.Proofs.YtcgdkfadcglekaaGreatDoor
open Go Go.RowKit

theorem isQ_intz {K : Nat} {z : Int} {x : Value} {w : World} (h : IsQ (IsI K z) (IsI 2 1) x w) (hK : 2 ≤ K) : IsRat K (z : Rat) x w := h.up (Nat.le_refl _) hK
theorem ex_1 : encS (textS 1) = .string ⟨#[49]⟩ ∧ textE 1 = 0 := ⟨by rw [show textS 1 = [49] by decide +kernel]; rfl, by decide +kernel⟩
theorem text_small {z : Int} (h : z.natAbs < 4294967296 ^ 6) : textE z = 0 := by
  have h1 := dec_len' _ _ h
  unfold textE
  rw [if_neg]
  unfold Lib.itoa
  split
  · rw [List.length_cons]; omega
  · rw [show z.toNat = z.natAbs by omega]; omega
theorem cmpQ_int (a b : Int) : cmpQ (a : Rat) (b : Rat) = cmpI a b := by
  unfold cmpQ
  rw [Rat.num_intCast, Rat.num_intCast, Rat.den_intCast, Rat.den_intCast]
  simp
set_option maxRecDepth 100000 in
set_option maxHeartbeats 8000000 in
theorem QIntegers_1 (w : World) (s1 s2 : Bool) (a1 a2 : Option Addr) (n1 n2 c1 c2 : Nat) (x1 x2 : List Nat) (h1 : Wd w a1 n1 c1 x1) (h2 : Wd w a2 n2 c2 x2) (ht : Tab w) (za zb : Int) (ha : rawZ s1 x1 6 = za) (hb : rawZ s2 x2 6 = zb) (ts : ByteArray) (hts : encS (textS za) = .string ts) :
    Calls Tryz.prog 7 #[.agg #[.bool s1, .slice a1 n1 c1], .agg #[.bool s2, .slice a2 n2 c2]] w (Ret w (IsV (.bool true))) := by
  have Ha := hid ha
  have Hb := hid hb
  have HT := hid hts
  obtain ⟨cc, hcc⟩ : ∃ c, cmpI za zb = c := ⟨_, rfl⟩
  have HC2 := hid hcc
  have HC1 := hid (show cmpQ (za : Rat) (zb : Rat) = cc by rw [cmpQ_int]; exact hcc)
  clear ha hb hts hcc
  obtain ⟨W, hW, S⟩ : ∃ W, W = (w.alloc (.cells #[.bool s1, .slice a1 n1 c1] 24)).alloc (.cells #[.bool s2, .slice a2 n2 c2] 24) ∧ Sto w W [((w.heap.size + 1, 0), IsR s2 x2), ((w.heap.size, 0), IsR s1 x1)] := ⟨_, rfl, (((Sto.start w).new1 (w.heap.size) (by simp) s1 a1 n1 c1 24 (IsR s1 x1) (IsR.gstb _ _) (⟨_, _, _, rfl, h1⟩)).new1 (w.heap.size + 1) (by simp) s2 a2 n2 c2 24 (IsR s2 x2) (IsR.gstb _ _) (⟨_, _, _, rfl, h2.ext ((Ext.refl _).alloc _)⟩))⟩
  clear h1 h2
  go_enter Tryz.func7, Tryz.ntmps7
  go_upto_region 1 with (fail)
  rw [← hW]
  clear hW
  refine rgs 2 [some 14, some 5] [IsV (.bool true), IsV (.bool true)] [] ?_ ?_
  · refine Rc (cl0 (en Tryz.func12)  (fun w' hE => examplesQ_f _ (ht.ext (S.ext.trans hE)))) ?_
    refine Rc (mv (Od.lc 0 14)) ?_
    exact RgAll.nil
  intro v W1 e1 hΦ _
  replace S := S.mono e1
  have v1 : v 1 = .bool true := hΦ 1 (by decide)
  simp only [layL, Act.put, List.setIfInBounds_toArray, List.set_cons_zero, List.set_cons_succ, Nat.reduceAdd]
  rw [v1]
  clear v1 hΦ e1
  refine wpList_nil ?_
  go_upto_region 2 with (fail)
  refine rgs 2 [some 15, some 16] [IsV (.bool true), IsV (.bool false)] [] ?_ ?_
  · refine Rc (mv (Od.lit 5)) ?_
    refine Rc (nt (Od.loc 0 15)) ?_
    exact RgAll.nil
  intro v W2 e1 hΦ _
  replace S := S.mono e1
  have v1 : v 1 = .bool false := hΦ 1 (by decide)
  simp only [layL, Act.put, List.setIfInBounds_toArray, List.set_cons_zero, List.set_cons_succ, Nat.reduceAdd]
  rw [v1]
  clear v1 hΦ e1
  refine wpList_nil ?_
  go_upto_region 4 with (fail)
  have hl := hid S.lt; have hw := S.ext.size
  refine rgn 8 [some 17, some 18, some 19, some 20, some 6, some 7, none, none] [IsR s1 x1, IsI 6 za, IsR s2 x2, IsI 6 zb, IsNw W2 1, IsNw W2 1, TT, TT] [4, 5] [none, none, none, none, none, none, some (4, [IsI 6 za]), some (5, [IsI 6 zb])] [none, none, none, none, none, none, some 4, some 5] 0 ?_ ?_
  · refine RcK (ldI S 1 (w.heap.size) 0 (Od.lit 2) ld_Raw) ?_
    refine RcK (cl2 (en Tryz.func44) (Od.lc (Φ := IsR s1 x1) 0 17) Od.con (fun x0 x1 w' hE d0 d1 => by { obtain rfl : x1 = .int .i64 6 := d1; exact Calls.mono (Made_f d0 (by decide)) fun _ _ h => h.eqz Ha.out })) ?_
    refine RcK (ldI S 0 (w.heap.size + 1) 0 (Od.lit 3) ld_Raw) ?_
    refine RcK (cl2 (en Tryz.func44) (Od.lc (Φ := IsR s2 x2) 2 19) Od.con (fun x0 x1 w' hE d0 d1 => by { obtain rfl : x1 = .int .i64 6 := d1; exact Calls.mono (Made_f d0 (by decide)) fun _ _ h => h.eqz Hb.out })) ?_
    refine RcK (alN al_Int) ?_
    refine RcK (alN al_Int) ?_
    refine RcS 4 (sI st_Int (Od.lc (Φ := IsI 6 za) 1 18)) ?_
    refine RcS 5 (sI st_Int (Od.lc (Φ := IsI 6 zb) 3 20)) ?_
    exact RgAllN.nil
  intro v W3 e1 hΦ hS hne
  replace S := S.mono e1
  obtain ⟨g6, v4, q1, S2⟩ := S.addI (hΦ 4 (by decide) rfl) (hS 6 (by decide) _ _ rfl) hw (IsI.gstb _ _)
  replace S := S2 (ApartO.old hl.out q1); clear S2
  obtain ⟨g7, v5, q2, S2⟩ := S.addI (hΦ 5 (by decide) rfl) (hS 7 (by decide) _ _ rfl) hw (IsI.gstb _ _)
  replace S := S2 (ApartO.cons (fun h => hne 4 5 (by decide) (by decide) (by decide) (by decide) (by decide) rfl rfl (by rw [v4, v5, h])) (ApartO.old hl.out q2)); clear S2
  simp only [layL, Act.put, List.setIfInBounds_toArray, List.set_cons_zero, List.set_cons_succ, Nat.reduceAdd]
  rw [v4, v5]
  clear hl hw hne v4 v5 hΦ hS e1
  refine wpAny_done (by kernel_rfl) ?_ _
  go_upto_region 5 with (fail)
  have hl := hid S.lt; have hw := S.ext.size
  refine rgn 8 [some 21, some 22, some 23, some 24, some 8, some 9, none, none] [IsI 6 za, IsQ (IsI 6 za) (IsI 2 1), IsI 6 zb, IsQ (IsI 6 zb) (IsI 2 1), IsNw W3 2, IsNw W3 2, TT, TT] [4, 5] [none, none, none, none, none, none, some (4, [IsI 6 za, IsI 2 1]), some (5, [IsI 6 zb, IsI 2 1])] [none, none, none, none, none, none, some 4, some 5] 0 ?_ ?_
  · refine RcK (ldI S 1 (g6) 0 (Od.lit 6) ld_Int) ?_
    refine RcK (cl1 (en Tryz.func29) (Od.lc (Φ := IsI 6 za) 0 21) (fun x0 w' hE d0 => rqWhole_c d0)) ?_
    refine RcK (ldI S 0 (g7) 0 (Od.lit 7) ld_Int) ?_
    refine RcK (cl1 (en Tryz.func29) (Od.lc (Φ := IsI 6 zb) 2 23) (fun x0 w' hE d0 => rqWhole_c d0)) ?_
    refine RcK (alN al_Rat) ?_
    refine RcK (alN al_Rat) ?_
    refine RcS 4 (sQ st_Rat (Od.lc (Φ := IsQ (IsI 6 za) (IsI 2 1)) 1 22) (IsI.gstb _ _) (IsI.gstb _ _)) ?_
    refine RcS 5 (sQ st_Rat (Od.lc (Φ := IsQ (IsI 6 zb) (IsI 2 1)) 3 24) (IsI.gstb _ _) (IsI.gstb _ _)) ?_
    exact RgAllN.nil
  intro v W4 e1 hΦ hS hne
  replace S := S.mono e1
  obtain ⟨g8, v4, q3, S2⟩ := S.addQ (hΦ 4 (by decide) rfl) (hS 6 (by decide) _ _ rfl) hw (IsI.gstb _ _) (IsI.gstb _ _)
  replace S := S2 (ApartO.old hl.out q3); clear S2
  obtain ⟨g9, v5, q4, S2⟩ := S.addQ (hΦ 5 (by decide) rfl) (hS 7 (by decide) _ _ rfl) hw (IsI.gstb _ _) (IsI.gstb _ _)
  replace S := S2 (ApartO.cons (fun h => hne 4 5 (by decide) (by decide) (by decide) (by decide) (by decide) rfl rfl (by rw [v4, v5, h])) (ApartO.cons (fun h => hne 4 5 (by decide) (by decide) (by decide) (by decide) (by decide) rfl rfl (by rw [v4, v5, h])) (ApartO.old hl.out q4))); clear S2
  simp only [layL, Act.put, List.setIfInBounds_toArray, List.set_cons_zero, List.set_cons_succ, Nat.reduceAdd]
  rw [v4, v5]
  clear hl hw hne v4 v5 hΦ hS e1
  refine wpAny_done (by kernel_rfl) ?_ _
  go_upto_region 6 with (fail)
  refine rgs 7 [some 26, some 27, some 25, some 28, some 29, some 10, some 11] [IsI 6 za, IsT2 (IsV (.string ts)) (IsV (.int .i64 0)), IsT2 (IsV (.string ts)) (IsV (.int .i64 0)), IsV (.string ts), IsV (.int .i64 0), IsV (.string ts), IsV (.int .i64 0)] [] ?_ ?_
  · refine Rc (ldI S 5 (g6) 0 (Od.lit 6) ld_Int) ?_
    refine Rc (cl1 (en Tryz.func45) (Od.lc (Φ := IsI 6 za) 0 26) (fun x0 w' hE d0 => (by have hh := Text_f d0 (by decide) (ht.ext (S.ext.trans hE)); rw [HT.out, text_small d0.size] at hh; exact hh))) ?_
    refine Rc (mv (Od.lc 1 27)) ?_
    refine Rc (ex (Od.loc 2 25) t20) ?_
    refine Rc (ex (Od.loc 2 25) t21) ?_
    refine Rc (mv (Od.lc 3 28)) ?_
    refine Rc (mv (Od.lc 4 29)) ?_
    exact RgAll.nil
  intro v W5 e1 hΦ _
  replace S := S.mono e1
  have v5 : v 5 = .string ts := hΦ 5 (by decide)
  have v6 : v 6 = .int .i64 0 := hΦ 6 (by decide)
  simp only [layL, Act.put, List.setIfInBounds_toArray, List.set_cons_zero, List.set_cons_succ, Nat.reduceAdd]
  rw [v5, v6]
  clear v5 v6 hΦ e1
  refine wpList_nil ?_
  go_upto_region 7 with (fail)
  refine rgs 7 [some 31, some 32, some 30, some 33, some 34, some 12, some 13] [IsQ (IsI 6 za) (IsI 2 1), IsT2 (IsV (.string ts)) (IsV (.int .i64 0)), IsT2 (IsV (.string ts)) (IsV (.int .i64 0)), IsV (.string ts), IsV (.int .i64 0), IsV (.string ts), IsV (.int .i64 0)] [] ?_ ?_
  · refine Rc (ldQ S 3 2 (g8) 0 (Od.lit 8) ld_Rat rfl rfl) ?_
    refine Rc (cl1 (en Tryz.func14) (Od.lc (Φ := IsQ (IsI 6 za) (IsI 2 1)) 0 31) (fun x0 w' hE d0 => qText_1 (k := 6) (d0.up (by decide) (by decide)) (by decide) (ht.ext (S.ext.trans hE)) ts ⟨HT.out, text_small d0.sizes.1⟩ ex_1)) ?_
    refine Rc (mv (Od.lc 1 32)) ?_
    refine Rc (ex (Od.loc 2 30) t20) ?_
    refine Rc (ex (Od.loc 2 30) t21) ?_
    refine Rc (mv (Od.lc 3 33)) ?_
    refine Rc (mv (Od.lc 4 34)) ?_
    exact RgAll.nil
  intro v W6 e1 hΦ _
  replace S := S.mono e1
  have v5 : v 5 = .string ts := hΦ 5 (by decide)
  have v6 : v 6 = .int .i64 0 := hΦ 6 (by decide)
  simp only [layL, Act.put, List.setIfInBounds_toArray, List.set_cons_zero, List.set_cons_succ, Nat.reduceAdd]
  rw [v5, v6]
  clear v5 v6 hΦ e1
  refine wpList_nil ?_
  go_upto_region 8 with (fail)
  refine rg 27 [some 35, some 36, some 37, some 38, some 39, some 40, some 41, some 42, some 43, some 44, some 45, some 46, some 47, some 48, some 49, some 50, some 51, some 52, some 53, some 54, some 55, some 56, some 57, some 58, some 59, some 60, some 61] [IsV (.int .i64 0), IsV (.bool false), IsV (.bool false), IsV (.int .i64 0), IsV (.bool false), IsV (.bool false), IsV (.bool false), IsV (.string ts), IsV (.string ts), IsV (.bool false), IsV (.bool false), IsV (.bool false), IsQ (IsI 6 za) (IsI 2 1), IsQ (IsI 6 zb) (IsI 2 1), IsV (.int .i64 cc), IsI 6 za, IsI 6 zb, IsV (.int .i64 cc), IsV (.bool false), IsV (.bool false), IsV (.bool false), IsQ (IsI 6 za) (IsI 2 1), IsI 6 ((za : Rat).floor), IsI 6 za, IsV (.bool true), IsV (.bool false), IsV (.bool false)] [] 0 ?_ ?_
  · refine Rc (mv (Od.lit 11)) ?_
    refine Rc (bn (r := .bool false) (Od.loc 0 35) Od.con (hr := fun w => by go_simp)) ?_
    refine Rc (mv (Od.lc 1 36)) ?_
    refine RcG 2 37 false (mv (Od.lit 13)) ?_
    refine RcG 2 37 false (bn (r := .bool false) (Od.loc 3 38) Od.con (hr := fun w => by go_simp)) ?_
    refine Rc (pk (Od.loc 2 37) (Od.lc 4 39)) ?_
    refine Rc (mv (Od.lc 5 40)) ?_
    refine RcG 6 41 false (mv (Od.lit 10)) ?_
    refine RcG 6 41 false (mv (Od.lit 12)) ?_
    refine RcG 6 41 false (bn (r := .bool false) (Od.loc 7 42) (Od.loc 8 43) (hr := fun w => by go_simp)) ?_
    refine Rc (pk (Od.loc 6 41) (Od.lc 9 44)) ?_
    refine Rc (mv (Od.lc 10 45)) ?_
    refine RcG 11 46 false (ldQ S 3 2 (g8) 0 (Od.lit 8) ld_Rat rfl rfl) ?_
    refine RcG 11 46 false (ldQ S 1 0 (g9) 0 (Od.lit 9) ld_Rat rfl rfl) ?_
    refine RcG 11 46 false (cl2 (en Tryz.func21) (Od.lc (Φ := IsQ (IsI 6 za) (IsI 2 1)) 12 47) (Od.lc (Φ := IsQ (IsI 6 zb) (IsI 2 1)) 13 48) (fun x0 x1 w' hE d0 d1 => Calls.mono (qCmp_f (isQ_intz d0 (by decide)) (isQ_intz d1 (by decide)) (by decide) (by decide)) fun _ _ h => h.int HC1.out)) ?_
    refine RcG 11 46 false (ldI S 5 (g6) 0 (Od.lit 6) ld_Int) ?_
    refine RcG 11 46 false (ldI S 4 (g7) 0 (Od.lit 7) ld_Int) ?_
    refine RcG 11 46 false (cl2 (en Tryz.func46) (Od.lc (Φ := IsI 6 za) 15 50) (Od.lc (Φ := IsI 6 zb) 16 51) (fun x0 x1 w' hE d0 d1 => Calls.mono (Cmp_f d0 d1 (by decide) (by decide)) fun _ _ h => h.int HC2.out)) ?_
    refine RcG 11 46 false (bn (r := .bool false) (Od.loc 14 49) (Od.loc 17 52) (hr := fun w => by go_simp)) ?_
    refine Rc (pk (Od.loc 11 46) (Od.lc 18 53)) ?_
    refine Rc (mv (Od.lc 19 54)) ?_
    refine RcG 20 55 false (ldQ S 3 2 (g8) 0 (Od.lit 8) ld_Rat rfl rfl) ?_
    refine RcG 20 55 false (cl1 (en Tryz.func39) (Od.lc (Φ := IsQ (IsI 6 za) (IsI 2 1)) 21 56) (fun x0 w' hE d0 => qFloor_f (isQ_intz d0 (by decide)) (by decide))) ?_
    refine RcG 20 55 false (ldI S 5 (g6) 0 (Od.lit 6) ld_Int) ?_
    refine RcG 20 55 false (cl2 (en Tryz.func47) (Od.lc (Φ := IsI 6 ((za : Rat).floor)) 22 57) (Od.lc (Φ := IsI 6 za) 23 58) (fun x0 x1 w' hE d0 d1 => Same_t d0 d1 (Rat.floor_intCast za) (by decide))) ?_
    refine RcG 20 55 false (nt (Od.loc 24 59)) ?_
    refine Rc (pk (Od.loc 20 55) (Od.lc 25 60)) ?_
    exact RgAll.nil
  intro v W7 e1 hΦ _
  replace S := S.mono e1
  have v26 : v 26 = .bool false := hΦ 26 (by decide)
  simp only [layL, Act.put, List.setIfInBounds_toArray, List.set_cons_zero, List.set_cons_succ, Nat.reduceAdd]
  rw [v26]
  clear v26 hΦ e1
  refine wpAny_done (by kernel_rfl) ?_ _
  go_upto_region 10 with (fail)
  refine rg 22 [some 62, some 63, some 64, some 65, some 66, some 67, some 68, some 69, some 70, some 71, some 72, some 73, some 74, some 75, some 76, some 77, some 78, some 79, some 80, some 81, some 82, some 4] [IsQ (IsI 6 za) (IsI 2 1), IsQ (IsI 6 zb) (IsI 2 1), IsQ (IsI 13 (((za : Rat) + (zb : Rat)).num)) (IsI 13 ((((za : Rat) + (zb : Rat)).den : Int))), IsI 6 za, IsI 6 zb, IsI 7 (za + zb), IsQ (IsI 7 (za + zb)) (IsI 2 1), IsV (.bool true), IsV (.bool true), IsQ (IsI 6 za) (IsI 2 1), IsQ (IsI 6 zb) (IsI 2 1), IsQ (IsI 12 (((za : Rat) * (zb : Rat)).num)) (IsI 12 ((((za : Rat) * (zb : Rat)).den : Int))), IsI 6 za, IsI 6 zb, IsI 12 (za * zb), IsQ (IsI 12 (za * zb)) (IsI 2 1), IsV (.bool true), IsV (.bool true), IsV (.bool true), IsV (.bool true), IsV (.bool true), IsV (.bool true)] [] 0 ?_ ?_
  · refine Rc (ldQ S 3 2 (g8) 0 (Od.lit 8) ld_Rat rfl rfl) ?_
    refine Rc (ldQ S 1 0 (g9) 0 (Od.lit 9) ld_Rat rfl rfl) ?_
    refine Rc (cl2 (en Tryz.func37) (Od.lc (Φ := IsQ (IsI 6 za) (IsI 2 1)) 0 62) (Od.lc (Φ := IsQ (IsI 6 zb) (IsI 2 1)) 1 63) (fun x0 x1 w' hE d0 d1 => qAdd_f (isQ_intz d0 (by decide)) (isQ_intz d1 (by decide)) (by decide) (by decide))) ?_
    refine Rc (ldI S 5 (g6) 0 (Od.lit 6) ld_Int) ?_
    refine Rc (ldI S 4 (g7) 0 (Od.lit 7) ld_Int) ?_
    refine Rc (cl2 (en Tryz.func48) (Od.lc (Φ := IsI 6 za) 3 65) (Od.lc (Φ := IsI 6 zb) 4 66) (fun x0 x1 w' hE d0 d1 => Add_f d0 d1 (by decide) (by decide))) ?_
    refine Rc (cl1 (en Tryz.func29) (Od.lc (Φ := IsI 7 (za + zb)) 5 67) (fun x0 w' hE d0 => rqWhole_c d0)) ?_
    refine Rc (cl2 (en Tryz.func18) (Od.lc (Φ := IsQ (IsI 13 (((za : Rat) + (zb : Rat)).num)) (IsI 13 ((((za : Rat) + (zb : Rat)).den : Int)))) 2 64) (Od.lc (Φ := IsQ (IsI 7 (za + zb)) (IsI 2 1)) 6 68) (fun x0 x1 w' hE d0 d1 => rqSame_eq d0 (isQ_intz d1 (by decide)) (by decide) (Rat.intCast_add za zb).symm)) ?_
    refine Rc (mv (Od.lc 7 69)) ?_
    refine RcG 8 70 true (ldQ S 3 2 (g8) 0 (Od.lit 8) ld_Rat rfl rfl) ?_
    refine RcG 8 70 true (ldQ S 1 0 (g9) 0 (Od.lit 9) ld_Rat rfl rfl) ?_
    refine RcG 8 70 true (cl2 (en Tryz.func38) (Od.lc (Φ := IsQ (IsI 6 za) (IsI 2 1)) 9 71) (Od.lc (Φ := IsQ (IsI 6 zb) (IsI 2 1)) 10 72) (fun x0 x1 w' hE d0 d1 => qMul_f (isQ_intz d0 (by decide)) (isQ_intz d1 (by decide)) (by decide) (by decide))) ?_
    refine RcG 8 70 true (ldI S 5 (g6) 0 (Od.lit 6) ld_Int) ?_
    refine RcG 8 70 true (ldI S 4 (g7) 0 (Od.lit 7) ld_Int) ?_
    refine RcG 8 70 true (cl2 (en Tryz.func49) (Od.lc (Φ := IsI 6 za) 12 74) (Od.lc (Φ := IsI 6 zb) 13 75) (fun x0 x1 w' hE d0 d1 => Mul_f d0 d1 (by decide) (by decide))) ?_
    refine RcG 8 70 true (cl1 (en Tryz.func29) (Od.lc (Φ := IsI 12 (za * zb)) 14 76) (fun x0 w' hE d0 => rqWhole_c d0)) ?_
    refine RcG 8 70 true (cl2 (en Tryz.func18) (Od.lc (Φ := IsQ (IsI 12 (((za : Rat) * (zb : Rat)).num)) (IsI 12 ((((za : Rat) * (zb : Rat)).den : Int)))) 11 73) (Od.lc (Φ := IsQ (IsI 12 (za * zb)) (IsI 2 1)) 15 77) (fun x0 x1 w' hE d0 d1 => rqSame_eq d0 (isQ_intz d1 (by decide)) (by decide) (Rat.intCast_mul za zb).symm)) ?_
    refine Rc (pk (Od.loc 8 70) (Od.lc 16 78)) ?_
    refine Rc (mv (Od.lc 17 79)) ?_
    refine RcG 18 80 true (mv (Od.lit 5)) ?_
    refine Rc (pk (Od.loc 18 80) (Od.lc 19 81)) ?_
    refine Rc (mv (Od.lc 20 82)) ?_
    exact RgAll.nil
  intro v W8 e1 hΦ _
  replace S := S.mono e1
  have v21 : v 21 = .bool true := hΦ 21 (by decide)
  simp only [layL, Act.put, List.setIfInBounds_toArray, List.set_cons_zero, List.set_cons_succ, Nat.reduceAdd]
  rw [v21]
  clear v21 hΦ e1
  refine wpAny_done (by kernel_rfl) ?_ _
  go_wp2_with fail
  exact bodyPost_ret (v := .bool true) (by simp [results, Tryz.results7, go_sem]) rfl (⟨_, rfl, S.ext, rfl⟩)

theorem QIntegers_c (w : World) (s1 s2 : Bool) (a1 a2 : Option Addr) (n1 n2 c1 c2 : Nat) (x1 x2 : List Nat) (h1 : Wd w a1 n1 c1 x1) (h2 : Wd w a2 n2 c2 x2) (ht : Tab w) :
    Calls Tryz.prog 7 #[.agg #[.bool s1, .slice a1 n1 c1], .agg #[.bool s2, .slice a2 n2 c2]] w (Ret w (IsV (.bool true))) :=
  QIntegers_1 w s1 s2 a1 a2 n1 n2 c1 c2 x1 x2 h1 h2 ht _ _ rfl rfl ⟨(textS (rawZ s1 x1 6)).toArray⟩ rfl
end Go.Proofs.YtcgdkfadcglekaaGreatDoor
namespace Go.Proofs.YtcgdkfadcglekaaGreatDoor
open Go Go.RowKit Go.ChangeShapes Go.WideShapes Go.ChangeAt

set_option maxRecDepth 100000 in
theorem rationalIntegers_lifted (os : Os) (started : os.Started) (H : Type) (enc : TypeId × Value → H) :
    ReturnsInHanded {} Tryz.checked os 7 .any (fun w args => (Rows.rationalIntegersSpec.pre enc Tryz.prog Tryz.f7 [] false w args ∧ laidMetH Tryz.prog laid3 w) ∧ sizedMet enc Tryz.prog Tryz.f7 (OpenSpec.ofChange Rows.rationalIntegersSpec) false w args)
      (Rows.rationalIntegersSpec.post enc Tryz.prog Tryz.f7 false true false false) := by
  refine returnsInHanded_of_change_and (C := Tryz.checked) (X := fun w _ => laidMetH Tryz.prog laid3 w) (fun _ _ _ hh h => h.of_heap hh) own started (by kernel_rfl) Tryz.func7
    (ChangeSpec.witness_shaped (enc := enc) (C := Tryz.checked) (os := os) (X := fun w _ => laidMetH Tryz.prog laid3 w) false (World.doorLaid Tryz.prog 2000 os) #[.agg #[.bool false, .slice none 0 0], .agg #[.bool false, .slice none 0 0]] 8 rfl (World.shaped_of_RefB (by kernel_rfl) (by kernel_rfl)) (by kernel_rfl) (by kernel_rfl) (by kernel_rfl) (door_met os _)) ?_
  intro W base args ds gs before hval0 hW _ _ hL _
  have hval : ∀ (j : Nat) t v, Tryz.f7.params[j]? = some t → args[j]? = some v → Value.okWide Tryz.prog W .any base t v := hval0
  have hW' := hW
  obtain ⟨p, q, hA0, hV, rfl, hfz, hnd⟩ := hW
  have hA : DataW.TrodAll enc Tryz.prog W 0 (fun _ => true) true Tryz.f7.params.toList args.toList ds p := hA0
  rw [Tryz.params7] at hA hval
  obtain ⟨v1, v2, d1, d2, p1, p2, rfl, rfl, rfl, k1, k2⟩ := trodAll_two hA
  obtain ⟨rfl, rfl⟩ := trodVars_none hV
  obtain ⟨s1, a1, n1, c1, x1, rfl, w1, r1⟩ := raw_open (hval 0 24 v1 rfl rfl) k1
  obtain ⟨s2, a2, n2, c2, x2, rfl, w2, r2⟩ := raw_open (hval 1 24 v2 rfl rfl) k2
  clear hA0 hval0
  refine (QIntegers_c W s1 s2 a1 a2 n1 n2 c1 c2 x1 x2 w1 w2 (tab_of_laid hL)).mono fun e W' ⟨x, he, hb, hx⟩ => ?_
  have hx : x = .bool true := hx
  subst he; subst hx
  refine ⟨_, rfl, post_of_below (pa := p1 ++ p2) (pv := []) hW' (fun _ _ _ => trodAll_mk1 (shut_bool Tryz.underlying4 true)) (fun sp hsp => ?_) (fun _ _ => rfl) (by simp) hb (ok_one (by kernel_rfl) rfl (okWide_bool_mk Tryz.underlying4 _))⟩
  rw [Tryz.params7]
  exact trodAll_mk2 (r1 W' sp hb fun q hq => hsp q (by simp [hq])) (r2 W' sp hb fun q hq => hsp q (by simp [hq]))

theorem rationalIntegers_row : Rows.RationalIntegersSaid :=
  OpenClaim.holds_of_wide 7 Tryz.f7 rfl rfl rfl rfl rfl rfl rfl ⟨rfl, rfl, rfl, rfl, rfl⟩ rfl rfl rfl rfl rfl (by kernel_rfl) Tryz.func7 (by kernel_rfl)
    (of_decide_eq_true (by kernel_rfl)) (by unfold Func.isWrapper; first | (rw [if_pos (by decide +kernel)]; kernel_rfl) | (rw [if_neg (by decide +kernel)]; exact ⟨rfl, rfl⟩))
    (fun os started H enc _ => rationalIntegers_lifted os started H enc)

set_option maxRecDepth 100000 in
/-- The tied card. -/
theorem rationalIntegers_holds : Rows.RationalIntegersCardSaid :=
  Claim7.holds_tied_plain_at .later [] [.data, .data, .data] true Rows.rationalIntegersCard.stood.harness false
    rationalIntegers_row (fun _ h => by cases h) (by kernel_rfl) (fun _ h => by cases h) rationalIntegers_row_tie rfl ⟨rfl, rfl⟩ (by kernel_rfl) rfl
    (fun f fn hf hfn => by
      obtain rfl : f = 7 := Option.some.inj ((show Tryz.prog.funcNamed "algorist/algoristlaw02.RationalIntegers" = some 7 by kernel_rfl).symm.trans hf) |>.symm
      obtain rfl : fn = Tryz.f7 := (Option.some.inj (Tryz.func7.symm.trans hfn)).symm
      refine ⟨by kernel_rfl, fun j t ht => ?_⟩
      rw [Tryz.params7] at ht
      have h3 : t = 24 := by
        rcases j with _ | _ | j
        · simpa using ht.symm
        · simpa using ht.symm
        · simp at ht
      subst h3
      exact (show Tryz.prog.wantsStandIn 24 = false by kernel_rfl))
    (by kernel_rfl)
#print axioms rationalIntegers_holds
end Go.Proofs.YtcgdkfadcglekaaGreatDoor
