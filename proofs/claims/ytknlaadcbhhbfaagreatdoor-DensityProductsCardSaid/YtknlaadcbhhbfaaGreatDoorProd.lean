import Derived.Test.YtknlaadcbhhbfaaGreatDoorRfb
import Derived.Test.YtknlaadcbhhbfaaGreatDoorDen17
import Derived.Test.YtknlaadcbhhbfaaGreatDoorProdP
namespace Go.Proofs.YtknlaadcbhhbfaaGreatDoor
open Go Go.RowKit
set_option maxRecDepth 100000 in
set_option maxHeartbeats 16000000 in
theorem Products_1 (w : World) (d m k : Nat) (v1 v2 v3 v4 v5 v6 v7 v8 : Value) (ht : Tab w) (hs : Sg w) (T L a b : Nat) (HD : Hid (d < 65536)) (HT : Hid (dsz d = T)) (HN : Hid (1 ≤ T ∧ T ≤ 4194304 ∧ (T % 4 = 0 ∨ T % 4 = 3))) (HL : Hid (L * L ≤ T ∧ T < (L + 1) * (L + 1)))
  (HM : Hid (IntKind.i64.wrap (m : Int) = (m : Int) ∧ IntKind.i64.wrap (1 + (m : Int)) = (a : Int))) (HK : Hid (IntKind.i64.wrap (k : Int) = (k : Int) ∧ IntKind.i64.wrap (1 + (k : Int)) = (b : Int))) (HA : Hid (-9223372036854775808 ≤ (a : Int) ∧ (a : Int) ≤ 9223372036854775807)) (HB : Hid (-9223372036854775808 ≤ (b : Int) ∧ (b : Int) ≤ 9223372036854775807))
  (htz : Tz w) (ea eb u : Int) (HEa : Hid (unsE (cdB T L) (a : Int) = ea)) (HEb : Hid (unsE (cdB T L) (b : Int) = eb)) (HU : Hid (unitZ (-(T : Int)) = u)) (HU6 : Hid (0 ≤ u ∧ u ≤ 6)) (HMa : Hid (0 < a ∧ a ≤ 256 ∧ 0 < a ∧ a ≤ 1048576))
  (HF : Hid (ea ≠ 0 ∨ (ea = 0 ∧ eb ≠ 0) ∨ (ea = 0 ∧ eb = 0 ∧ ∃ (c : Nat) (s t z x1 x2 : Int) (gg : Nat) (bb : Bool), ((a : Int) * (b : Int) = (c : Int)) ∧ (totE T L (a : Int) = s ∧ unsE (cdB T L) (a : Int) = 0) ∧ (totE T L (b : Int) = t ∧ unsE (cdB T L) (b : Int) = 0) ∧ (totE T L (c : Int) = z ∧ unsE (cdB T L) (c : Int) = 0) ∧ (((Int.gcd (a : Int) (b : Int) : Nat) : Int) = (gg : Int) ∧ decide ((gg : Int) = 1) = bb) ∧ (IntKind.i64.wrap (z * u) = x1 ∧ IntKind.i64.wrap (s * t) = x2 ∧ (bb = true → x1 = x2)) ∧ (s = u * totP (locg (kr (-(T : Int)))) a)))) :
  Calls Tryz.prog 3 #[.agg #[.int .u16 (d : Int), v1, v2, v3, v4, v5, v6, v7, v8], .int .u8 (m : Int), .int .u8 (k : Int)] w (Ret w (IsV (.bool true))) := by
 obtain ⟨W, hW, S, cB0, cB1, cB2, cB3, cB4, cB5, cB6, cB7, cB8⟩ : ∃ W, W = w.alloc (.cells #[.int .u16 (d : Int), v1, v2, v3, v4, v5, v6, v7, v8] 26) ∧ Sto w W [] ∧ World.cell? W ⟨w.heap.size, 0, none⟩ = some (.int .u16 (d : Int)) ∧ World.cell? W ⟨w.heap.size, 1, none⟩ = some (v1) ∧ World.cell? W ⟨w.heap.size, 2, none⟩ = some (v2) ∧ World.cell? W ⟨w.heap.size, 3, none⟩ = some (v3) ∧ World.cell? W ⟨w.heap.size, 4, none⟩ = some (v4) ∧ World.cell? W ⟨w.heap.size, 5, none⟩ = some (v5) ∧ World.cell? W ⟨w.heap.size, 6, none⟩ = some (v6) ∧ World.cell? W ⟨w.heap.size, 7, none⟩ = some (v7) ∧ World.cell? W ⟨w.heap.size, 8, none⟩ = some (v8) := ⟨_, rfl, ((Sto.start w).mono ((Ext.refl _).alloc _)), cell_newAt _ _ (by simp) _ _ _ _ rfl, cell_newAt _ _ (by simp) _ _ _ _ rfl, cell_newAt _ _ (by simp) _ _ _ _ rfl, cell_newAt _ _ (by simp) _ _ _ _ rfl, cell_newAt _ _ (by simp) _ _ _ _ rfl, cell_newAt _ _ (by simp) _ _ _ _ rfl, cell_newAt _ _ (by simp) _ _ _ _ rfl, cell_newAt _ _ (by simp) _ _ _ _ rfl, cell_newAt _ _ (by simp) _ _ _ _ rfl⟩
 go_enter Tryz.func3, Tryz.ntmps3
 go_upto_region 1 with (fail)
 rw [← hW]
 clear hW
 refine rgs 2 [some 23, some 7] [IsV (.bool true), IsV (.bool true)] [] ?_ ?_
 ·refine Rc (cl0 (en Tryz.func6)  (fun w' hE => examplesD_f w' (ht.ext (S.ext.trans hE)) (hs.ext (S.ext.trans hE)))) ?_
  refine Rc (mv (Od.lc 0 23)) ?_
  exact RgAll.nil
 intro v W1 e1 hΦ _
 replace S := S.mono e1
 replace cB0 := e1.cell cB0
 replace cB1 := e1.cell cB1
 replace cB2 := e1.cell cB2
 replace cB3 := e1.cell cB3
 replace cB4 := e1.cell cB4
 replace cB5 := e1.cell cB5
 replace cB6 := e1.cell cB6
 replace cB7 := e1.cell cB7
 replace cB8 := e1.cell cB8
 have v1 : v 1 = .bool true := hΦ 1 (by decide)
 simp only [layL, Act.put, uAx, u0x, u1x, Nat.reduceAdd]
 rw [v1]
 clear v1 hΦ e1
 refine wpList_nil ?_
 go_upto_region 2 with (fail)
 refine rgs 2 [some 24, some 25] [IsV (.bool true), IsV (.bool false)] [] ?_ ?_
 ·refine Rc (mv (Od.lit 7)) ?_
  refine Rc (nt (Od.loc 0 24)) ?_
  exact RgAll.nil
 intro v W2 e1 hΦ _
 replace S := S.mono e1
 replace cB0 := e1.cell cB0
 replace cB1 := e1.cell cB1
 replace cB2 := e1.cell cB2
 replace cB3 := e1.cell cB3
 replace cB4 := e1.cell cB4
 replace cB5 := e1.cell cB5
 replace cB6 := e1.cell cB6
 replace cB7 := e1.cell cB7
 replace cB8 := e1.cell cB8
 have v1 : v 1 = .bool false := hΦ 1 (by decide)
 simp only [layL, Act.put, uAx, u0x, u1x, Nat.reduceAdd]
 rw [v1]
 clear v1 hΦ e1
 refine wpList_nil ?_
 go_upto_region 4 with (fail)
 have hl := hid S.lt; have hw := S.ext.size
 refine rgs 3 [some 26, some 27, some 8] [IsV (.agg #[.int .u16 (d : Int), v1, v2, v3, v4, v5, v6, v7, v8]), IsI 2 (-(T : Int)), IsBo W2 1] [2] ?_ ?_
 ·refine Rc (ldRaw (raw_run ⟨cB0, cB1, cB2, cB3, cB4, cB5, cB6, cB7, cB8⟩) (Od.lit 3)) ?_
  refine Rc (cl1 (en Tryz.func7) (Od.lc (Φ := IsV (.agg #[.int .u16 (d : Int), v1, v2, v3, v4, v5, v6, v7, v8])) 0 26) (fun x0 w' hE d0 => by { obtain rfl : x0 = .agg #[.int .u16 (d : Int), v1, v2, v3, v4, v5, v6, v7, v8] := d0; exact (by have hh := disc_f w' d v1 v2 v3 v4 v5 v6 v7 v8 HD.out; rw [HT.out] at hh; exact hh) })) ?_
  refine Rc (al al_Int) ?_
  exact RgAll.nil
 intro v W3 e1 hΦ _
 replace S := S.mono e1
 have h27 := hΦ 1 (by decide)
 obtain ⟨g8, v2, q2, b1, _⟩ := (hΦ 2 (by decide) : IsBo W2 1 (v 2) W3)
 replace S := S.addN 1 (ApartO.old hl.out q2) (Nat.le_trans hw q2) b1
 simp only [newF, List.cons_append, List.nil_append] at S
 simp only [layL, Act.put, uAx, u0x, u1x, Nat.reduceAdd]
 rw [v2]
 clear b1 hl hw v2 hΦ e1
 try simp only [List.drop_succ_cons, List.drop_zero]
 (with_reducible refine stL ?_ (by rfl)); intro KK hKK; refine stI S 0 (g8) 0 h27 st_Int (fun W4 S2 G2 => hKK _ _ ?_) rfl
 replace S := S2; clear S2 G2 hKK KK h27
 simp only [u0x] at S
 refine wpList_nil ?_
 clear cB0 cB1 cB2 cB3 cB4 cB5 cB6 cB7 cB8
 go_upto_region 5 with (fail)
 have hl := hid S.lt; have hw := S.ext.size
 refine rgs 5 [some 28, some 29, some 30, some 31, some 9] [IsV (.int .u8 (m : Int)), IsV (.int .i64 (m : Int)), IsV (.int .i64 (a : Int)), IsI 2 ((a : Int)), IsBo W4 1] [4] ?_ ?_
 ·refine Rc (mv (Od.lit 1)) ?_
  refine RgAll.cons (by { (with_reducible refine RgL.mk (by rfl) ?_); intro v a w' hE hd hf; have d0 : v 0 = .int .u8 (m : Int) := hd 0 (by kernel_rfl); have ev0 := hf.val 0 28 _ d0 (by kernel_rfl) (by kernel_rfl) (by kernel_rfl); clear d0; have hx9 := HM.out.1; clear hd hf; intro K hK; go_simp; exact hK.out _ _ (Ext.refl _) rfl (FreshIf.no rfl) }) ?_
  refine Rc (bn (r := .int .i64 (a : Int)) Od.con (Od.loc 1 29) (hr := fun w => by have hx9 := HM.out.2; go_simp)) ?_
  refine Rc (cl1 (en Tryz.func8) (Od.lc (Φ := IsV (.int .i64 (a : Int))) 2 30) (fun x0 w' hE d0 => by { obtain rfl : x0 = .int .i64 (a : Int) := d0; exact ROf_f w' (a : Int) HA.out.1 HA.out.2 })) ?_
  refine Rc (al al_Int) ?_
  exact RgAll.nil
 intro v W5 e1 hΦ _
 replace S := S.mono e1
 have h31 := hΦ 3 (by decide)
 obtain ⟨g9, v4, q4, b3, _⟩ := (hΦ 4 (by decide) : IsBo W4 1 (v 4) W5)
 replace S := S.addN 1 (ApartO.old hl.out q4) (Nat.le_trans hw q4) b3
 simp only [newF, List.cons_append, List.nil_append] at S
 simp only [layL, Act.put, uAx, u0x, u1x, Nat.reduceAdd]
 rw [v4]
 clear b3 hl hw v4 hΦ e1
 try simp only [List.drop_succ_cons, List.drop_zero]
 (with_reducible refine stL ?_ (by rfl)); intro KK hKK; refine stI S 0 (g9) 0 h31 st_Int (fun W6 S2 G2 => hKK _ _ ?_) rfl
 replace S := S2; clear S2 G2 hKK KK h31
 simp only [u0x] at S
 refine wpList_nil ?_
 go_upto_region 6 with (fail)
 have hl := hid S.lt; have hw := S.ext.size
 refine rgs 5 [some 32, some 33, some 34, some 35, some 10] [IsV (.int .u8 (k : Int)), IsV (.int .i64 (k : Int)), IsV (.int .i64 (b : Int)), IsI 2 ((b : Int)), IsBo W6 1] [4] ?_ ?_
 ·refine Rc (mv (Od.lit 2)) ?_
  refine RgAll.cons (by { (with_reducible refine RgL.mk (by rfl) ?_); intro v a w' hE hd hf; have d0 : v 0 = .int .u8 (k : Int) := hd 0 (by kernel_rfl); have ev0 := hf.val 0 32 _ d0 (by kernel_rfl) (by kernel_rfl) (by kernel_rfl); clear d0; have hx9 := HK.out.1; clear hd hf; intro K hK; go_simp; exact hK.out _ _ (Ext.refl _) rfl (FreshIf.no rfl) }) ?_
  refine Rc (bn (r := .int .i64 (b : Int)) Od.con (Od.loc 1 33) (hr := fun w => by have hx9 := HK.out.2; go_simp)) ?_
  refine Rc (cl1 (en Tryz.func8) (Od.lc (Φ := IsV (.int .i64 (b : Int))) 2 34) (fun x0 w' hE d0 => by { obtain rfl : x0 = .int .i64 (b : Int) := d0; exact ROf_f w' (b : Int) HB.out.1 HB.out.2 })) ?_
  refine Rc (al al_Int) ?_
  exact RgAll.nil
 intro v W7 e1 hΦ _
 replace S := S.mono e1
 have h35 := hΦ 3 (by decide)
 obtain ⟨g10, v4, q6, b5, _⟩ := (hΦ 4 (by decide) : IsBo W6 1 (v 4) W7)
 replace S := S.addN 1 (ApartO.old hl.out q6) (Nat.le_trans hw q6) b5
 simp only [newF, List.cons_append, List.nil_append] at S
 simp only [layL, Act.put, uAx, u0x, u1x, Nat.reduceAdd]
 rw [v4]
 clear b5 hl hw v4 hΦ e1
 try simp only [List.drop_succ_cons, List.drop_zero]
 (with_reducible refine stL ?_ (by rfl)); intro KK hKK; refine stI S 0 (g10) 0 h35 st_Int (fun W8 S2 G2 => hKK _ _ ?_) rfl
 replace S := S2; clear S2 G2 hKK KK h35
 simp only [u0x] at S
 refine wpList_nil ?_
 go_upto_region 7 with (fail)
 rcases HF.out with h0 | ⟨h1, h0⟩ | ⟨h1, h0, c, s, t, z, x1, x2, gg, bb, q0, q1, q2, q3, q4, q5, q6⟩
 ·have HE0 := hid h0
  refine rgs 10 [some 36, some 37, some 38, some 39, some 40, some 41, some 42, some 43, some 44, some 45] [IsI 2 (-(T : Int)), IsI 2 ((a : Int)), IsV (.int .i64 ea), IsV (.bool true), IsV (.bool true), IsV (undef), IsV (undef), IsV (undef), IsV (undef), IsV (.bool true)] [] ?_ ?_
  ·refine Rc (ldI S 2 (g8) 0 (Od.lit 8) ld_Int) ?_
   refine Rc (ldI S 1 (g9) 0 (Od.lit 9) ld_Int) ?_
   refine Rc (cl2 (en Tryz.func9) (Od.lc (Φ := IsI 2 (-(T : Int))) 0 36) (Od.lc (Φ := IsI 2 ((a : Int))) 1 37) (fun x0 x1 w' hE d0 d1 => (by have hh := Refused_f d0 d1 (by decide) (by decide) HN.out HL.out; rw [HEa.out] at hh; exact hh))) ?_
   refine Rc (bn (r := .bool true) (Od.loc 2 38) Od.con (hr := fun w => by have hx9 := HE0.out; go_simp)) ?_
   refine Rc (mv (Od.lc 3 39)) ?_
   refine RcN 4 40 true ?_
   refine RcN 4 40 true ?_
   refine RcN 4 40 true ?_
   refine RcN 4 40 true ?_
   refine Rc (pk (Od.loc 4 40) Od.con) ?_
   exact RgAll.nil
  intro v W9 e1 hΦ _
  replace S := S.mono e1
  have v9 : v 9 = .bool true := hΦ 9 (by decide)
  simp only [layL, Act.put, uAx, u0x, u1x, Nat.reduceAdd]
  rw [v9]
  clear v9 hΦ e1
  refine wpList_nil ?_
  go_upto_region 8 with (fail)
  refine rgs 2 [some 46, some 6] [IsV (.bool true), IsV (.bool true)] [] ?_ ?_
  ·refine Rc (mv (Od.lit 7)) ?_
   refine Rc (mv (Od.lc 0 46)) ?_
   exact RgAll.nil
  intro v W10 e1 hΦ _
  replace S := S.mono e1
  have v1 : v 1 = .bool true := hΦ 1 (by decide)
  simp only [layL, Act.put, uAx, u0x, u1x, Nat.reduceAdd]
  rw [v1]
  clear v1 hΦ e1
  refine wpList_nil ?_
  go_wp2_with fail
  exact bodyPost_ret (v := .bool true) (by simp [results, Tryz.results3, go_sem]) rfl (⟨_, rfl, S.ext, rfl⟩)
 ·subst h1; have HE0 := hid h0
  refine rgs 10 [some 36, some 37, some 38, some 39, some 40, some 41, some 42, some 43, some 44, some 45] [IsI 2 (-(T : Int)), IsI 2 ((a : Int)), IsV (.int .i64 0), IsV (.bool false), IsV (.bool false), IsI 2 (-(T : Int)), IsI 2 ((b : Int)), IsV (.int .i64 eb), IsV (.bool true), IsV (.bool true)] [] ?_ ?_
  ·refine Rc (ldI S 2 (g8) 0 (Od.lit 8) ld_Int) ?_
   refine Rc (ldI S 1 (g9) 0 (Od.lit 9) ld_Int) ?_
   refine Rc (cl2 (en Tryz.func9) (Od.lc (Φ := IsI 2 (-(T : Int))) 0 36) (Od.lc (Φ := IsI 2 ((a : Int))) 1 37) (fun x0 x1 w' hE d0 d1 => (by have hh := Refused_f d0 d1 (by decide) (by decide) HN.out HL.out; rw [HEa.out] at hh; exact hh))) ?_
   refine Rc (bn (r := .bool false) (Od.loc 2 38) Od.con (hr := fun w => by go_simp)) ?_
   refine Rc (mv (Od.lc 3 39)) ?_
   refine RcG 4 40 false (ldI S 2 (g8) 0 (Od.lit 8) ld_Int) ?_
   refine RcG 4 40 false (ldI S 0 (g10) 0 (Od.lit 10) ld_Int) ?_
   refine RcG 4 40 false (cl2 (en Tryz.func9) (Od.lc (Φ := IsI 2 (-(T : Int))) 5 41) (Od.lc (Φ := IsI 2 ((b : Int))) 6 42) (fun x0 x1 w' hE d0 d1 => (by have hh := Refused_f d0 d1 (by decide) (by decide) HN.out HL.out; rw [HEb.out] at hh; exact hh))) ?_
   refine RcG 4 40 false (bn (r := .bool true) (Od.loc 7 43) Od.con (hr := fun w => by have hx9 := HE0.out; go_simp)) ?_
   refine Rc (pk (Od.loc 4 40) (Od.lc 8 44)) ?_
   exact RgAll.nil
  intro v W11 e1 hΦ _
  replace S := S.mono e1
  have v9 : v 9 = .bool true := hΦ 9 (by decide)
  simp only [layL, Act.put, uAx, u0x, u1x, Nat.reduceAdd]
  rw [v9]
  clear v9 hΦ e1
  refine wpList_nil ?_
  go_upto_region 8 with (fail)
  refine rgs 2 [some 46, some 6] [IsV (.bool true), IsV (.bool true)] [] ?_ ?_
  ·refine Rc (mv (Od.lit 7)) ?_
   refine Rc (mv (Od.lc 0 46)) ?_
   exact RgAll.nil
  intro v W12 e1 hΦ _
  replace S := S.mono e1
  have v1 : v 1 = .bool true := hΦ 1 (by decide)
  simp only [layL, Act.put, uAx, u0x, u1x, Nat.reduceAdd]
  rw [v1]
  clear v1 hΦ e1
  refine wpList_nil ?_
  go_wp2_with fail
  exact bodyPost_ret (v := .bool true) (by simp [results, Tryz.results3, go_sem]) rfl (⟨_, rfl, S.ext, rfl⟩)
 ·subst h1; subst h0
  have HC := hid q0
  have HTa := hid q1
  have HTb := hid q2
  have HTc := hid q3
  have HG := hid q4
  have HX := hid q5
  have HSu := hid q6
  clear q0 q1 q2 q3 q4 q5 q6
  refine rgs 10 [some 36, some 37, some 38, some 39, some 40, some 41, some 42, some 43, some 44, some 45] [IsI 2 (-(T : Int)), IsI 2 ((a : Int)), IsV (.int .i64 0), IsV (.bool false), IsV (.bool false), IsI 2 (-(T : Int)), IsI 2 ((b : Int)), IsV (.int .i64 0), IsV (.bool false), IsV (.bool false)] [] ?_ ?_
  ·refine Rc (ldI S 2 (g8) 0 (Od.lit 8) ld_Int) ?_
   refine Rc (ldI S 1 (g9) 0 (Od.lit 9) ld_Int) ?_
   refine Rc (cl2 (en Tryz.func9) (Od.lc (Φ := IsI 2 (-(T : Int))) 0 36) (Od.lc (Φ := IsI 2 ((a : Int))) 1 37) (fun x0 x1 w' hE d0 d1 => (by have hh := Refused_f d0 d1 (by decide) (by decide) HN.out HL.out; rw [HEa.out] at hh; exact hh))) ?_
   refine Rc (bn (r := .bool false) (Od.loc 2 38) Od.con (hr := fun w => by go_simp)) ?_
   refine Rc (mv (Od.lc 3 39)) ?_
   refine RcG 4 40 false (ldI S 2 (g8) 0 (Od.lit 8) ld_Int) ?_
   refine RcG 4 40 false (ldI S 0 (g10) 0 (Od.lit 10) ld_Int) ?_
   refine RcG 4 40 false (cl2 (en Tryz.func9) (Od.lc (Φ := IsI 2 (-(T : Int))) 5 41) (Od.lc (Φ := IsI 2 ((b : Int))) 6 42) (fun x0 x1 w' hE d0 d1 => (by have hh := Refused_f d0 d1 (by decide) (by decide) HN.out HL.out; rw [HEb.out] at hh; exact hh))) ?_
   refine RcG 4 40 false (bn (r := .bool false) (Od.loc 7 43) Od.con (hr := fun w => by go_simp)) ?_
   refine Rc (pk (Od.loc 4 40) (Od.lc 8 44)) ?_
   exact RgAll.nil
  intro v W13 e1 hΦ _
  replace S := S.mono e1
  have v9 : v 9 = .bool false := hΦ 9 (by decide)
  simp only [layL, Act.put, uAx, u0x, u1x, Nat.reduceAdd]
  rw [v9]
  clear v9 hΦ e1
  refine wpList_nil ?_
  go_upto_region 9 with (fail)
  refine rgs 8 [some 48, some 49, some 50, some 47, some 51, some 52, some 11, some 12] [IsI 2 (-(T : Int)), IsI 2 ((a : Int)), IsT2 (IsV (.int .i64 s)) (IsV (.int .i64 0)), IsT2 (IsV (.int .i64 s)) (IsV (.int .i64 0)), IsV (.int .i64 s), IsV (.int .i64 0), IsV (.int .i64 s), IsV (.int .i64 0)] [] ?_ ?_
  ·refine Rc (ldI S 2 (g8) 0 (Od.lit 8) ld_Int) ?_
   refine Rc (ldI S 1 (g9) 0 (Od.lit 9) ld_Int) ?_
   refine Rc (cl2 (en Tryz.func10) (Od.lc (Φ := IsI 2 (-(T : Int))) 0 48) (Od.lc (Φ := IsI 2 ((a : Int))) 1 49) (fun x0 x1 w' hE d0 d1 => (by have hh := Total_f d0 d1 ⟨by decide, by decide⟩ (hs.ext (S.ext.trans hE)) HN.out HL.out; rw [HTa.out.1, HTa.out.2] at hh; exact hh))) ?_
   refine Rc (mv (Od.lc 2 50)) ?_
   refine Rc (ex (Od.loc 3 47) t20) ?_
   refine Rc (ex (Od.loc 3 47) t21) ?_
   refine Rc (mv (Od.lc 4 51)) ?_
   refine Rc (mv (Od.lc 5 52)) ?_
   exact RgAll.nil
  intro v W14 e1 hΦ _
  replace S := S.mono e1
  have v6 : v 6 = .int .i64 s := hΦ 6 (by decide)
  have v7 : v 7 = .int .i64 0 := hΦ 7 (by decide)
  simp only [layL, Act.put, uAx, u0x, u1x, Nat.reduceAdd]
  rw [v6, v7]
  clear v6 v7 hΦ e1
  refine wpList_nil ?_
  go_upto_region 10 with (fail)
  refine rgs 8 [some 54, some 55, some 56, some 53, some 57, some 58, some 13, some 14] [IsI 2 (-(T : Int)), IsI 2 ((b : Int)), IsT2 (IsV (.int .i64 t)) (IsV (.int .i64 0)), IsT2 (IsV (.int .i64 t)) (IsV (.int .i64 0)), IsV (.int .i64 t), IsV (.int .i64 0), IsV (.int .i64 t), IsV (.int .i64 0)] [] ?_ ?_
  ·refine Rc (ldI S 2 (g8) 0 (Od.lit 8) ld_Int) ?_
   refine Rc (ldI S 0 (g10) 0 (Od.lit 10) ld_Int) ?_
   refine Rc (cl2 (en Tryz.func10) (Od.lc (Φ := IsI 2 (-(T : Int))) 0 54) (Od.lc (Φ := IsI 2 ((b : Int))) 1 55) (fun x0 x1 w' hE d0 d1 => (by have hh := Total_f d0 d1 ⟨by decide, by decide⟩ (hs.ext (S.ext.trans hE)) HN.out HL.out; rw [HTb.out.1, HTb.out.2] at hh; exact hh))) ?_
   refine Rc (mv (Od.lc 2 56)) ?_
   refine Rc (ex (Od.loc 3 53) t20) ?_
   refine Rc (ex (Od.loc 3 53) t21) ?_
   refine Rc (mv (Od.lc 4 57)) ?_
   refine Rc (mv (Od.lc 5 58)) ?_
   exact RgAll.nil
  intro v W15 e1 hΦ _
  replace S := S.mono e1
  have v6 : v 6 = .int .i64 t := hΦ 6 (by decide)
  have v7 : v 7 = .int .i64 0 := hΦ 7 (by decide)
  simp only [layL, Act.put, uAx, u0x, u1x, Nat.reduceAdd]
  rw [v6, v7]
  clear v6 v7 hΦ e1
  refine wpList_nil ?_
  go_upto_region 11 with (fail)
  refine rg 10 [some 60, some 61, some 62, some 63, some 64, some 59, some 65, some 66, some 15, some 16] [IsI 2 (-(T : Int)), IsI 2 ((a : Int)), IsI 2 ((b : Int)), IsI 4 ((c : Int)), IsT2 (IsV (.int .i64 z)) (IsV (.int .i64 0)), IsT2 (IsV (.int .i64 z)) (IsV (.int .i64 0)), IsV (.int .i64 z), IsV (.int .i64 0), IsV (.int .i64 z), IsV (.int .i64 0)] [] 0 ?_ ?_
  ·refine Rc (ldI S 2 (g8) 0 (Od.lit 8) ld_Int) ?_
   refine Rc (ldI S 1 (g9) 0 (Od.lit 9) ld_Int) ?_
   refine Rc (ldI S 0 (g10) 0 (Od.lit 10) ld_Int) ?_
   refine Rc (cl2 (en Tryz.func11) (Od.lc (Φ := IsI 2 ((a : Int))) 1 61) (Od.lc (Φ := IsI 2 ((b : Int))) 2 62) (fun x0 x1 w' hE d0 d1 => (by have hh := RMul_f d0 d1 (by decide) (by decide); rw [HC.out] at hh; exact hh))) ?_
   refine Rc (cl2 (en Tryz.func10) (Od.lc (Φ := IsI 2 (-(T : Int))) 0 60) (Od.lc (Φ := IsI 4 ((c : Int))) 3 63) (fun x0 x1 w' hE d0 d1 => (by have hh := Total_f d0 d1 ⟨by decide, by decide⟩ (hs.ext (S.ext.trans hE)) HN.out HL.out; rw [HTc.out.1, HTc.out.2] at hh; exact hh))) ?_
   refine Rc (mv (Od.lc 4 64)) ?_
   refine Rc (ex (Od.loc 5 59) t20) ?_
   refine Rc (ex (Od.loc 5 59) t21) ?_
   refine Rc (mv (Od.lc 6 65)) ?_
   refine Rc (mv (Od.lc 7 66)) ?_
   exact RgAll.nil
  intro v W16 e1 hΦ _
  replace S := S.mono e1
  have v8 : v 8 = .int .i64 z := hΦ 8 (by decide)
  have v9 : v 9 = .int .i64 0 := hΦ 9 (by decide)
  simp only [layL, Act.put, uAx, u0x, u1x, Nat.reduceAdd]
  rw [v8, v9]
  clear v8 v9 hΦ e1
  refine wpAny_done (by kernel_rfl) ?_ _
  go_upto_region 12 with (fail)
  refine rgs 3 [some 67, some 68, some 17] [IsI 2 (-(T : Int)), IsV (.int .i64 u), IsV (.int .i64 u)] [] ?_ ?_
  ·refine Rc (ldI S 2 (g8) 0 (Od.lit 8) ld_Int) ?_
   refine Rc (cl1 (en Tryz.func12) (Od.lc (Φ := IsI 2 (-(T : Int))) 0 67) (fun x0 w' hE d0 => (by have hh := Units_f d0 (by decide); rw [HU.out] at hh; exact hh))) ?_
   refine Rc (mv (Od.lc 1 68)) ?_
   exact RgAll.nil
  intro v W17 e1 hΦ _
  replace S := S.mono e1
  have v2 : v 2 = .int .i64 u := hΦ 2 (by decide)
  simp only [layL, Act.put, uAx, u0x, u1x, Nat.reduceAdd]
  rw [v2]
  clear v2 hΦ e1
  refine wpList_nil ?_
  go_upto_region 13 with (fail)
  refine rgs 10 [some 69, some 70, some 71, some 72, some 73, some 74, some 75, some 76, some 77, some 78] [IsV (.int .i64 0), IsV (.bool false), IsV (.bool false), IsV (.int .i64 0), IsV (.bool false), IsV (.bool false), IsV (.bool false), IsV (.int .i64 0), IsV (.bool false), IsV (.bool false)] [] ?_ ?_
  ·refine Rc (mv (Od.lit 12)) ?_
   refine Rc (bn (r := .bool false) (Od.loc 0 69) Od.con (hr := fun w => by go_simp)) ?_
   refine Rc (mv (Od.lc 1 70)) ?_
   refine RcG 2 71 false (mv (Od.lit 14)) ?_
   refine RcG 2 71 false (bn (r := .bool false) (Od.loc 3 72) Od.con (hr := fun w => by go_simp)) ?_
   refine Rc (pk (Od.loc 2 71) (Od.lc 4 73)) ?_
   refine Rc (mv (Od.lc 5 74)) ?_
   refine RcG 6 75 false (mv (Od.lit 16)) ?_
   refine RcG 6 75 false (bn (r := .bool false) (Od.loc 7 76) Od.con (hr := fun w => by go_simp)) ?_
   refine Rc (pk (Od.loc 6 75) (Od.lc 8 77)) ?_
   exact RgAll.nil
  intro v W18 e1 hΦ _
  replace S := S.mono e1
  have v9 : v 9 = .bool false := hΦ 9 (by decide)
  simp only [layL, Act.put, uAx, u0x, u1x, Nat.reduceAdd]
  rw [v9]
  clear v9 hΦ e1
  refine wpList_nil ?_
  go_upto_region 15 with (fail)
  refine rgs 14 [some 79, some 80, some 81, some 82, some 83, some 84, some 85, some 86, some 87, some 88, some 89, some 90, some 91, some 92] [IsI 2 ((a : Int)), IsI 2 ((b : Int)), IsI 2 ((gg : Int)), IsI 2 1, IsV (.bool bb), IsV (.bool bb), IsIf (bb) (IsV (.int .i64 z)), IsIf (bb) (IsV (.int .i64 u)), IsIf (bb) (IsV (.int .i64 x1)), IsIf (bb) (IsV (.int .i64 s)), IsIf (bb) (IsV (.int .i64 t)), IsIf (bb) (IsV (.int .i64 x2)), IsIf (bb) (IsV (.bool false)), IsV (.bool false)] [] ?_ ?_ (hst := by repeat' (first | exact trivial | apply IsIf.stb | exact IsV.stb _ | exact IsI.stb _ _ | apply IsJ.stb | apply IsQ.stb | apply And.intro))
  ·refine Rc (ldI S 1 (g9) 0 (Od.lit 9) ld_Int) ?_
   refine Rc (ldI S 0 (g10) 0 (Od.lit 10) ld_Int) ?_
   refine Rc (cl2 (en Tryz.func14) (Od.lc (Φ := IsI 2 ((a : Int))) 0 79) (Od.lc (Φ := IsI 2 ((b : Int))) 1 80) (fun x0 x1 w' hE d0 d1 => (by have hh := RGcd_f d0 d1 (by decide) (by decide); rw [HG.out.1] at hh; exact hh))) ?_
   refine Rc (cl1 (en Tryz.func8) Od.con (fun x0 w' hE d0 => by { obtain rfl : x0 = .int .i64 1 := d0; exact ROf_f w' 1 (by decide) (by decide) })) ?_
   refine Rc (cl2 (en Tryz.func13) (Od.lc (Φ := IsI 2 ((gg : Int))) 2 81) (Od.lc (Φ := IsI 2 1) 3 82) (fun x0 x1 w' hE d0 d1 => (by have hh := Same_f d0 d1 (by decide); rw [HG.out.2] at hh; exact hh))) ?_
   refine Rc (mv (Od.lc 4 83)) ?_
   refine RcB 5 84 bb true (fun hb => by subst hb; exact mv (Od.lit 15)) ?_
   refine RcB 5 84 bb true (fun hb => by subst hb; exact mv (Od.lit 17)) ?_
   refine RcB 5 84 bb true (fun hb => by subst hb; exact bn (r := .int .i64 x1) (Od.loc 6 85) (Od.loc 7 86) (hr := fun w => by have hx9 := HX.out.1; go_simp)) ?_
   refine RcB 5 84 bb true (fun hb => by subst hb; exact mv (Od.lit 11)) ?_
   refine RcB 5 84 bb true (fun hb => by subst hb; exact mv (Od.lit 13)) ?_
   refine RcB 5 84 bb true (fun hb => by subst hb; exact bn (r := .int .i64 x2) (Od.loc 9 88) (Od.loc 10 89) (hr := fun w => by have hx9 := HX.out.2.1; go_simp)) ?_
   refine RcB 5 84 bb true (fun hb => by subst hb; exact bn (r := .bool false) (Od.loc 8 87) (Od.loc 11 90) (hr := fun w => by have hx9 := HX.out.2.2 rfl; go_simp)) ?_
   refine Rc (pkA (b2 := false) (Od.loc 5 84) (fun hb => by subst hb; exact Od.lc 12 91) ((by cases bb <;> rfl))) ?_
   exact RgAll.nil
  intro v W19 e1 hΦ _
  replace S := S.mono e1
  have v13 : v 13 = .bool false := hΦ 13 (by decide)
  simp only [layL, Act.put, uAx, u0x, u1x, Nat.reduceAdd]
  rw [v13]
  clear v13 hΦ e1
  refine wpList_nil ?_
  go_upto_region 17 with (fail)
  refine rgs 4 [some 93, some 94, some 95, some 18] [IsV (.int .u8 (m : Int)), IsV (.int .i64 (m : Int)), IsV (.int .i64 (a : Int)), IsV (.int .i64 (a : Int))] [] ?_ ?_
  ·refine Rc (mv (Od.lit 1)) ?_
   refine RgAll.cons (by { (with_reducible refine RgL.mk (by rfl) ?_); intro v a w' hE hd hf; have d0 : v 0 = .int .u8 (m : Int) := hd 0 (by kernel_rfl); have ev0 := hf.val 0 93 _ d0 (by kernel_rfl) (by kernel_rfl) (by kernel_rfl); clear d0; have hx9 := HM.out.1; clear hd hf; intro K hK; go_simp; exact hK.out _ _ (Ext.refl _) rfl (FreshIf.no rfl) }) ?_
   refine Rc (bn (r := .int .i64 (a : Int)) Od.con (Od.loc 1 94) (hr := fun w => by have hx9 := HM.out.2; go_simp)) ?_
   refine Rc (mv (Od.lc 2 95)) ?_
   exact RgAll.nil
  intro v W20 e1 hΦ _
  replace S := S.mono e1
  have v3 : v 3 = .int .i64 (a : Int) := hΦ 3 (by decide)
  simp only [layL, Act.put, uAx, u0x, u1x, Nat.reduceAdd]
  rw [v3]
  clear v3 hΦ e1
  refine wpList_nil ?_
  go_upto_region 18 with (fail)
  refine rgs 2 [some 96, some 19] [IsV (.int .i64 u), IsV (.int .i64 u)] [] ?_ ?_
  ·refine Rc (mv (Od.lit 17)) ?_
   refine Rc (mv (Od.lc 0 96)) ?_
   exact RgAll.nil
  intro v W21 e1 hΦ _
  replace S := S.mono e1
  have v1 : v 1 = .int .i64 u := hΦ 1 (by decide)
  simp only [layL, Act.put, uAx, u0x, u1x, Nat.reduceAdd]
  rw [v1]
  clear v1 hΦ e1
  refine wpList_nil ?_
  go_upto_region 19 with (fail)
  refine rgs 1 [some 20] [IsV (.int .i64 2)] [] ?_ ?_
  ·refine Rc (mv Od.con) ?_
   exact RgAll.nil
  intro v W22 e1 hΦ _
  replace S := S.mono e1
  have v0 : v 0 = .int .i64 2 := hΦ 0 (by decide)
  simp only [layL, Act.put, uAx, u0x, u1x]
  rw [v0]
  clear v0 hΦ e1
  refine wpList_nil ?_
  go_wp2_with fail
  have S0 := hid S; clear S
  go_loopg [18, 19, 20] 48 (fun gk v18 v19 v20 wr => ∃ (r p : Nat) (q tt : Int), v18 = .int .i64 (r : Int) ∧ v19 = .int .i64 tt ∧ v20 = .int .i64 (p : Int) ∧ tt = u * q ∧ 2 ≤ p ∧ p + gk = 50 ∧ PI (kr (-(T : Int))) a r p q ∧ Hid (Sto w wr [((g10, 0), IsI 2 ((b : Int))), ((g9, 0), IsI 2 ((a : Int))), ((g8, 0), IsI 2 (-(T : Int)))]))
  case atStart => exact ⟨a, 2, 1, u, rfl, rfl, rfl, by omega, Nat.le_refl _, rfl, PI.start _ HMa.out.1, S0⟩
  case round =>
  clear S0
  obtain ⟨r, p, q, tt, rfl, rfl, rfl, htt, hp2, hg, hPI, S⟩ := hrel
  have S := S.out
  have hra := hPI.rest HMa.out.1
  have hr0 := hPI.inv.pos
  have HP := hid hPI
  have HQ := hid (And.intro htt (And.intro hp2 hg))
  have HRA := hid (And.intro hra hr0)
  have ha256 := HMa.out.2.1
  clear hPI htt hr0
  rcases Nat.lt_or_ge p 50 with h50 | h50
  ·have HLT := hid (show (p : Int) < 50 ∧ p < 50 by omega)
   obtain ⟨rr, hrr⟩ : ∃ x, r % p = x := ⟨_, rfl⟩
   have hrp : rr < p := by rw [← hrr]; exact Nat.mod_lt _ (by omega)
   have HRR := hid (show ((r : Int)).tmod (p : Int) = (rr : Int) ∧ IntKind.i64.wrap (rr : Int) = (rr : Int) ∧ ¬ p = 0 from ⟨by rw [Int.tmod_eq_emod_of_nonneg (by omega), ← hrr]; rfl, by simp only [IntKind.wrap_i64]; omega, by omega⟩)
   have HAD := hid (show IntKind.i64.wrap ((p : Int) + 1) = (p : Int) + 1 by simp only [IntKind.wrap_i64]; omega)
   have HQ2 := hid h50
   by_cases hz : rr = 0
   ·subst hz
    have hd : p ∣ r := Nat.dvd_of_mod_eq_zero hrr
    have hpr := HP.out.inv.takeP hp2 hd
    obtain ⟨lf, hlf⟩ : ∃ x, locg (kr (-(T : Int))) p (vl p a) = x := ⟨_, rfl⟩
    obtain ⟨kk, r3, he3, hn3⟩ : ∃ kk r3, r = p ^ kk * r3 ∧ ¬ p ∣ r3 := by obtain ⟨m3, e3, n3, _⟩ := vl_spec hpr.1 HRA.out.2; exact ⟨_, m3, e3, n3⟩
    have hPI2 := HP.out.take hp2 hd he3 hn3
    rw [hlf] at hPI2
    have HLF := hid hlf
    have HPR := hid (And.intro hpr (show p < 1048576 by omega))
    have HMO := hid hrr
    have hIs : ∀ x w', Ext w w' → IsI 2 (p : Int) x w' → Calls Tryz.prog 38 #[x] w' (Ret w' (IsT2 (IsV (.bool true)) (IsV (.int .i64 0)))) := fun x w' hE hx => by
     rcases primes50 hpr h50 with ⟨j, hj, rfl⟩ | h | h
     ·exact Is_b j hj hx
     ·exact Is_s p (.inl h) (htz.ext hE) hx
     ·exact Is_s p (.inr h) (htz.ext hE) hx
    have HIS := hid hIs
    have hb0 := hPI2.bound
    have hb1 := hPI2.nn
    have hu6 := HU6.out
    have hmu : 0 ≤ u * (q * lf) ∧ u * (q * lf) ≤ 6 * 256 := ⟨Int.mul_nonneg hu6.1 hb1, Int.le_trans (Int.mul_le_mul hu6.2 (show q * lf ≤ 256 by omega) hb1 (by decide)) (by decide)⟩
    have HTT := hid (show IntKind.i64.wrap (tt * lf) = u * (q * lf) by rw [HQ.out.1, Int.mul_assoc]; simp only [IntKind.wrap_i64]; omega)
    obtain ⟨t2, ht2⟩ : ∃ x, u * (q * lf) = x := ⟨_, rfl⟩
    have HT2 := hid ht2.symm
    rw [ht2] at HTT
    have HP2 := hid hPI2
    have H3 := hid (And.intro he3 hn3)
    clear hPI2 hlf hpr hIs hb0 hb1 hu6 hmu ht2 he3 hn3 hd hrr hrp hra h50
    go_upto_region 20 with (fail)
    refine rgs 2 [some 97, some 98] [IsV (.int .i64 (p : Int)), IsV (.bool true)] [] ?_ ?_
    ·refine Rc (mv (Od.lit 20)) ?_
     refine Rc (bn (r := .bool true) (Od.loc 0 97) Od.con (hr := fun w => by have hx9 := HLT.out.1; have hx8 := HLT.out.2; go_simp)) ?_
     exact RgAll.nil
    intro v W23 e1 hΦ _
    replace S := S.mono e1
    have v1 : v 1 = .bool true := hΦ 1 (by decide)
    simp only [layL, Act.put, uAx, u0x, u1x, Nat.reduceAdd]
    rw [v1]
    clear v1 hΦ e1
    refine wpList_nil ?_
    go_upto_region 22 with (fail)
    refine rgs 4 [some 101, some 102, some 103, some 104] [IsV (.int .i64 (r : Int)), IsV (.int .i64 (p : Int)), IsV (.int .i64 0), IsV (.bool false)] [] ?_ ?_
    ·refine Rc (mv (Od.lit 18)) ?_
     refine Rc (mv (Od.lit 20)) ?_
     refine Rc (bn (r := .int .i64 0) (Od.loc 0 101) (Od.loc 1 102) (hr := fun w => by have hx9 := HRR.out.1; have hx8 := HRR.out.2.1; have hx7 := HRR.out.2.2; go_simp)) ?_
     refine Rc (bn (r := .bool false) (Od.loc 2 103) Od.con (hr := fun w => by go_simp)) ?_
     exact RgAll.nil
    intro v W24 e1 hΦ _
    replace S := S.mono e1
    have v3 : v 3 = .bool false := hΦ 3 (by decide)
    simp only [layL, Act.put, uAx, u0x, u1x, Nat.reduceAdd]
    rw [v3]
    clear v3 hΦ e1
    refine wpList_nil ?_
    go_upto_region 23 with (fail)
    refine rgs 9 [some 106, some 107, some 108, some 109, some 105, some 110, some 111, some 21, some 22] [IsI 2 (-(T : Int)), IsI 2 ((a : Int)), IsV (.int .i64 (p : Int)), IsT2 (IsV (.int .i64 lf)) (IsV (.int .i64 0)), IsT2 (IsV (.int .i64 lf)) (IsV (.int .i64 0)), IsV (.int .i64 lf), IsV (.int .i64 0), IsV (.int .i64 lf), IsV (.int .i64 0)] [] ?_ ?_
    ·refine Rc (ldI S 2 (g8) 0 (Od.lit 8) ld_Int) ?_
     refine Rc (ldI S 1 (g9) 0 (Od.lit 9) ld_Int) ?_
     refine Rc (mv (Od.lit 20)) ?_
     refine Rc (cl3 (en Tryz.func15) (Od.lc (Φ := IsI 2 (-(T : Int))) 0 106) (Od.lc (Φ := IsI 2 ((a : Int))) 1 107) (Od.lc (Φ := IsV (.int .i64 (p : Int))) 2 108) (fun x0 x1 x2 w' hE d0 d1 d2 => by { obtain rfl : x2 = .int .i64 (p : Int) := d2; exact (by have hh := Local_e (n := T) (L := L) (m := a) (p := p) (hid rfl) d0 d1 ⟨by decide, by decide⟩ (hs.ext (S.ext.trans hE)) HN.out HL.out HTa.out.2 HMa.out.2.2 HPR.out.1 HPR.out.2 (fun x w9 hE9 => HIS.out x w9 ((S.ext.trans hE).trans hE9)); rw [HLF.out] at hh; exact hh) })) ?_
     refine Rc (mv (Od.lc 3 109)) ?_
     refine Rc (ex (Od.loc 4 105) t20) ?_
     refine Rc (ex (Od.loc 4 105) t21) ?_
     refine Rc (mv (Od.lc 5 110)) ?_
     refine Rc (mv (Od.lc 6 111)) ?_
     exact RgAll.nil
    intro v W25 e1 hΦ _
    replace S := S.mono e1
    have v7 : v 7 = .int .i64 lf := hΦ 7 (by decide)
    have v8 : v 8 = .int .i64 0 := hΦ 8 (by decide)
    simp only [layL, Act.put, uAx, u0x, u1x, Nat.reduceAdd]
    rw [v7, v8]
    clear v7 v8 hΦ e1
    refine wpList_nil ?_
    go_upto_region 24 with (fail)
    refine rgs 2 [some 112, some 113] [IsV (.int .i64 0), IsV (.bool false)] [] ?_ ?_
    ·refine Rc (mv (Od.lit 22)) ?_
     refine Rc (bn (r := .bool false) (Od.loc 0 112) Od.con (hr := fun w => by go_simp)) ?_
     exact RgAll.nil
    intro v W26 e1 hΦ _
    replace S := S.mono e1
    have v1 : v 1 = .bool false := hΦ 1 (by decide)
    simp only [layL, Act.put, uAx, u0x, u1x, Nat.reduceAdd]
    rw [v1]
    clear v1 hΦ e1
    refine wpList_nil ?_
    go_upto_region 26 with (fail)
    refine rgs 3 [some 114, some 115, some 116] [IsV (.int .i64 tt), IsV (.int .i64 lf), IsV (.int .i64 t2)] [] ?_ ?_
    ·refine Rc (mv (Od.lit 19)) ?_
     refine Rc (mv (Od.lit 21)) ?_
     refine Rc (bn (r := .int .i64 t2) (Od.loc 0 114) (Od.loc 1 115) (hr := fun w => by have hx9 := HTT.out; go_simp)) ?_
     exact RgAll.nil
    intro v W27 e1 hΦ _
    replace S := S.mono e1
    have v2 : v 2 = .int .i64 t2 := hΦ 2 (by decide)
    simp only [layL, Act.put, uAx, u0x, u1x, Nat.reduceAdd]
    rw [v2]
    clear v2 hΦ e1
    refine wpList_step fun K hK => ?_; go_simp; refine hK _ _ ?_; clear hK K
    refine wpList_nil ?_
    go_wp2_with fail
    have S0 := hid S; clear S
    obtain ⟨gq, hgq⟩ : ∃ x, x = gk := ⟨_, rfl⟩
    have HGQ := hid hgq
    clear hgq
    go_loopg [18] r (fun gk2 v18 wr2 => ∃ (y j : Nat), v18 = .int .i64 (y : Int) ∧ r = p ^ j * y ∧ 0 < y ∧ y ≤ r ∧ y = gk2 ∧ Hid (Sto w wr2 [((g10, 0), IsI 2 ((b : Int))), ((g9, 0), IsI 2 ((a : Int))), ((g8, 0), IsI 2 (-(T : Int)))]))
    case atStart => exact ⟨r, 0, rfl, by simp, HRA.out.2, Nat.le_refl _, rfl, S0⟩
    case round =>
     clear S0
     obtain ⟨y, j, rfl, hy, hy0, hyr, hgy, S⟩ := hrel
     have S := S.out
     obtain ⟨y1, hy1⟩ : ∃ x, y % p = x := ⟨_, rfl⟩
     obtain ⟨y2, hy2⟩ : ∃ x, y / p = x := ⟨_, rfl⟩
     have hp0 := HQ.out.2.1
     have hyp : y1 < p := by rw [← hy1]; exact Nat.mod_lt _ (by omega)
     have hy3 : y2 ≤ y := by rw [← hy2]; exact Nat.div_le_self _ _
     have hr256 := HRA.out.1
     have hL50 := HLT.out.2
     have HY := hid (show ((y : Int)).tmod (p : Int) = (y1 : Int) ∧ IntKind.i64.wrap (y1 : Int) = (y1 : Int) ∧ ¬ p = 0 from ⟨by rw [Int.tmod_eq_emod_of_nonneg (by omega), ← hy1]; rfl, by simp only [IntKind.wrap_i64]; omega, by omega⟩)
     have HZ := hid (show ((y : Int)).tdiv (p : Int) = (y2 : Int) ∧ IntKind.i64.wrap (y2 : Int) = (y2 : Int) ∧ ¬ p = 0 from ⟨by rw [Int.tdiv_eq_ediv_of_nonneg (by omega), ← hy2]; rfl, by simp only [IntKind.wrap_i64]; omega, by omega⟩)
     by_cases h0 : y1 = 0
     ·subst h0
      have hy4 : y = p * y2 := by have := Nat.div_add_mod y p; rw [hy1, hy2] at this; omega
      have hy5 : 0 < y2 := Nat.pos_of_ne_zero fun h => by rw [h] at hy4; omega
      have hy6 : y2 < y := by have h7 : 2 * y2 ≤ p * y2 := Nat.mul_le_mul_right _ hp0; omega
      have HW := hid (show r = p ^ (j + 1) * y2 ∧ 0 < y2 ∧ y2 ≤ r ∧ y2 < gk from ⟨by rw [Nat.pow_succ, Nat.mul_assoc, ← hy4]; exact hy, hy5, by omega, by omega⟩)
      clear hy hy0 hyr hgy hy1 hy2 hyp hy3 hy4 hy5 hy6 hr256 hp0 hL50
      go_upto_region 27 with (fail)
      refine rgs 4 [some 117, some 118, some 119, some 120] [IsV (.int .i64 (y : Int)), IsV (.int .i64 (p : Int)), IsV (.int .i64 0), IsV (.bool true)] [] ?_ ?_
      ·refine Rc (mv (Od.lit 18)) ?_
       refine Rc (mv (Od.lit 20)) ?_
       refine Rc (bn (r := .int .i64 0) (Od.loc 0 117) (Od.loc 1 118) (hr := fun w => by have hx9 := HY.out.1; have hx8 := HY.out.2.1; have hx7 := HY.out.2.2; go_simp)) ?_
       refine Rc (bn (r := .bool true) (Od.loc 2 119) Od.con (hr := fun w => by go_simp)) ?_
       exact RgAll.nil
      intro v W28 e1 hΦ _
      replace S := S.mono e1
      have v3 : v 3 = .bool true := hΦ 3 (by decide)
      simp only [layL, Act.put, uAx, u0x, u1x, Nat.reduceAdd]
      rw [v3]
      clear v3 hΦ e1
      refine wpList_nil ?_
      go_upto_region 28 with (fail)
      refine rgs 3 [some 121, some 122, some 123] [IsV (.int .i64 (y : Int)), IsV (.int .i64 (p : Int)), IsV (.int .i64 (y2 : Int))] [] ?_ ?_
      ·refine Rc (mv (Od.lit 18)) ?_
       refine Rc (mv (Od.lit 20)) ?_
       refine Rc (bn (r := .int .i64 (y2 : Int)) (Od.loc 0 121) (Od.loc 1 122) (hr := fun w => by have hx9 := HZ.out.1; have hx8 := HZ.out.2.1; have hx7 := HZ.out.2.2; go_simp)) ?_
       exact RgAll.nil
      intro v W29 e1 hΦ _
      replace S := S.mono e1
      have v2 : v 2 = .int .i64 (y2 : Int) := hΦ 2 (by decide)
      simp only [layL, Act.put, uAx, u0x, u1x, Nat.reduceAdd]
      rw [v2]
      clear v2 hΦ e1
      refine wpList_step fun K hK => ?_; go_simp; refine hK _ _ ?_; clear hK K
      refine wpList_nil ?_
      have S' := hid S; clear S
      go_wp2_with fail
      go_roundg y2
      case measure => have := HW.out; omega
      case rel => exact ⟨y2, j + 1, rfl, HW.out.1, HW.out.2.1, HW.out.2.2.1, rfl, S'⟩
     ·have hny : ¬ p ∣ y := fun h => h0 (by rw [← hy1]; exact Nat.mod_eq_zero_of_dvd h)
      have hyI := HP.out.take HQ.out.2.1 ⟨p ^ (j - 1) * y, by
       have hj : j ≠ 0 := fun h => by subst h; rw [Nat.pow_zero, Nat.one_mul] at hy; exact hny (hy ▸ Nat.dvd_of_mod_eq_zero (HMO.out))
       rw [hy, ← Nat.mul_assoc, ← Nat.pow_succ']; congr 2; omega⟩ hy hny
      rw [HLF.out] at hyI
      have HF := hid hyI
      have h0' := hid h0
      clear hy hy0 hyr hgy hy1 hy2 hyp hy3 hr256 hp0 hL50 hny hyI h0
      go_upto_region 27 with (fail)
      refine rgs 4 [some 117, some 118, some 119, some 120] [IsV (.int .i64 (y : Int)), IsV (.int .i64 (p : Int)), IsV (.int .i64 (y1 : Int)), IsV (.bool false)] [] ?_ ?_
      ·refine Rc (mv (Od.lit 18)) ?_
       refine Rc (mv (Od.lit 20)) ?_
       refine Rc (bn (r := .int .i64 (y1 : Int)) (Od.loc 0 117) (Od.loc 1 118) (hr := fun w => by have hx9 := HY.out.1; have hx8 := HY.out.2.1; have hx7 := HY.out.2.2; go_simp)) ?_
       refine Rc (bn (r := .bool false) (Od.loc 2 119) Od.con (hr := fun w => by have hx9 := h0'.out; go_simp)) ?_
       exact RgAll.nil
      intro v W30 e1 hΦ _
      replace S := S.mono e1
      have v3 : v 3 = .bool false := hΦ 3 (by decide)
      simp only [layL, Act.put, uAx, u0x, u1x, Nat.reduceAdd]
      rw [v3]
      clear v3 hΦ e1
      refine wpList_nil ?_
      have hx9 := HAD.out
      have S' := hid S; clear S
      go_wp2_with fail
      go_roundg (gq - 1)
      case measure => have := HQ.out; have := HGQ.out; have := HQ2.out; omega
      case rel => exact ⟨y, p + 1, q * lf, t2, rfl, rfl, by rw [Int.natCast_add]; rfl, HT2.out, by have := HQ.out; omega, by have := HQ.out; have := HQ2.out; have := HGQ.out; omega, HF.out, S'⟩
   ·have hd : ¬ p ∣ r := fun h => hz (by rw [← hrr]; exact Nat.mod_eq_zero_of_dvd h)
    have HF := hid (HP.out.skip hp2 hd)
    have hz' := hid hz
    clear hd hz hrr hrp hra h50
    go_upto_region 20 with (fail)
    refine rgs 2 [some 97, some 98] [IsV (.int .i64 (p : Int)), IsV (.bool true)] [] ?_ ?_
    ·refine Rc (mv (Od.lit 20)) ?_
     refine Rc (bn (r := .bool true) (Od.loc 0 97) Od.con (hr := fun w => by have hx9 := HLT.out.1; have hx8 := HLT.out.2; go_simp)) ?_
     exact RgAll.nil
    intro v W31 e1 hΦ _
    replace S := S.mono e1
    have v1 : v 1 = .bool true := hΦ 1 (by decide)
    simp only [layL, Act.put, uAx, u0x, u1x, Nat.reduceAdd]
    rw [v1]
    clear v1 hΦ e1
    refine wpList_nil ?_
    go_upto_region 22 with (fail)
    refine rgs 4 [some 101, some 102, some 103, some 104] [IsV (.int .i64 (r : Int)), IsV (.int .i64 (p : Int)), IsV (.int .i64 (rr : Int)), IsV (.bool true)] [] ?_ ?_
    ·refine Rc (mv (Od.lit 18)) ?_
     refine Rc (mv (Od.lit 20)) ?_
     refine Rc (bn (r := .int .i64 (rr : Int)) (Od.loc 0 101) (Od.loc 1 102) (hr := fun w => by have hx9 := HRR.out.1; have hx8 := HRR.out.2.1; have hx7 := HRR.out.2.2; go_simp)) ?_
     refine Rc (bn (r := .bool true) (Od.loc 2 103) Od.con (hr := fun w => by have hx9 := hz'.out; go_simp)) ?_
     exact RgAll.nil
    intro v W32 e1 hΦ _
    replace S := S.mono e1
    have v3 : v 3 = .bool true := hΦ 3 (by decide)
    simp only [layL, Act.put, uAx, u0x, u1x, Nat.reduceAdd]
    rw [v3]
    clear v3 hΦ e1
    refine wpList_nil ?_
    have hx9 := HAD.out
    have S' := hid S; clear S
    go_wp2_with fail
    go_roundg (gk - 1)
    case measure => have := HQ.out; have := HQ2.out; omega
    case rel => exact ⟨r, p + 1, q, tt, rfl, rfl, by rw [Int.natCast_add]; rfl, HQ.out.1, by have := HQ.out; omega, by have := HQ.out; have := HQ2.out; omega, HF.out, S'⟩
  ·have HGE := hid (show ¬ (p : Int) < 50 ∧ ¬ p < 50 by omega)
   have hr1 : ¬ (1 < r) → tt = s := fun h => by
    rw [HQ.out.1, HP.out.end_ hp2 HMa.out.1 (by have := HRA.out.2; omega), HSu.out]
   have hr1 := hid hr1
   clear hra h50
   go_upto_region 20 with (fail)
   refine rgs 2 [some 97, some 98] [IsV (.int .i64 (p : Int)), IsV (.bool false)] [] ?_ ?_
   ·refine Rc (mv (Od.lit 20)) ?_
    refine Rc (bn (r := .bool false) (Od.loc 0 97) Od.con (hr := fun w => by have hx9 := HGE.out.1; have hx8 := HGE.out.2; go_simp)) ?_
    exact RgAll.nil
   intro v W33 e1 hΦ _
   replace S := S.mono e1
   have v1 : v 1 = .bool false := hΦ 1 (by decide)
   simp only [layL, Act.put, uAx, u0x, u1x, Nat.reduceAdd]
   rw [v1]
   clear v1 hΦ e1
   refine wpList_nil ?_
   go_upto_region 29 with (fail)
   by_cases h1r : 1 < r
   ·have h1i := hid (show (1 : Int) < (r : Int) ∧ 1 < r from ⟨by omega, h1r⟩)
    clear h1r
    refine rgs 11 [some 124, some 125, some 126, some 127, some 128, some 129, some 130, some 131, some 132, some 133, some 6] [IsV (.bool true), IsV (.bool true), IsV (.int .i64 (r : Int)), IsV (.bool true), IsV (.bool true), IsV (undef), IsV (undef), IsV (undef), IsV (.bool true), IsV (.bool true), IsV (.bool true)] [] ?_ ?_
    ·refine Rc (mv (Od.lit 7)) ?_
     refine Rc (mv (Od.lc 0 124)) ?_
     refine RcG 1 125 true (mv (Od.lit 18)) ?_
     refine RcG 1 125 true (bn (r := .bool true) (Od.loc 2 126) Od.con (hr := fun w => by have hx9 := h1i.out.1; have hx8 := h1i.out.2; go_simp)) ?_
     refine RcG 1 125 true (mv (Od.lc 3 127)) ?_
     refine RcN 4 128 true ?_
     refine RcN 4 128 true ?_
     refine RcN 4 128 true ?_
     refine RcG 1 125 true (pk (Od.loc 4 128) Od.con) ?_
     refine Rc (pk (Od.loc 1 125) (Od.lc 8 132)) ?_
     refine Rc (mv (Od.lc 9 133)) ?_
     exact RgAll.nil
    intro v W34 e1 hΦ _
    replace S := S.mono e1
    have v10 : v 10 = .bool true := hΦ 10 (by decide)
    simp only [layL, Act.put, uAx, u0x, u1x, Nat.reduceAdd]
    rw [v10]
    clear v10 hΦ e1
    refine wpList_nil ?_
    go_wp2_with fail
    exact bodyPost_ret (v := .bool true) (by simp [results, Tryz.results3, go_sem]) rfl (⟨_, rfl, S.ext, rfl⟩)
   ·have h1i := hid (show ¬ (1 : Int) < (r : Int) ∧ ¬ 1 < r from ⟨by omega, h1r⟩)
    have hts := hid (hr1.out h1r)
    clear h1r
    refine rgs 11 [some 124, some 125, some 126, some 127, some 128, some 129, some 130, some 131, some 132, some 133, some 6] [IsV (.bool true), IsV (.bool true), IsV (.int .i64 (r : Int)), IsV (.bool false), IsV (.bool false), IsV (.int .i64 tt), IsV (.int .i64 s), IsV (.bool true), IsV (.bool true), IsV (.bool true), IsV (.bool true)] [] ?_ ?_
    ·refine Rc (mv (Od.lit 7)) ?_
     refine Rc (mv (Od.lc 0 124)) ?_
     refine RcG 1 125 true (mv (Od.lit 18)) ?_
     refine RcG 1 125 true (bn (r := .bool false) (Od.loc 2 126) Od.con (hr := fun w => by have hx9 := h1i.out.1; have hx8 := h1i.out.2; go_simp)) ?_
     refine RcG 1 125 true (mv (Od.lc 3 127)) ?_
     refine RcG 4 128 false (mv (Od.lit 19)) ?_
     refine RcG 4 128 false (mv (Od.lit 11)) ?_
     refine RcG 4 128 false (bn (r := .bool true) (Od.loc 5 129) (Od.loc 6 130) (hr := fun w => by have hx9 := hts.out; go_simp)) ?_
     refine RcG 1 125 true (pk (Od.loc 4 128) (Od.lc 7 131)) ?_
     refine Rc (pk (Od.loc 1 125) (Od.lc 8 132)) ?_
     refine Rc (mv (Od.lc 9 133)) ?_
     exact RgAll.nil
    intro v W35 e1 hΦ _
    replace S := S.mono e1
    have v10 : v 10 = .bool true := hΦ 10 (by decide)
    simp only [layL, Act.put, uAx, u0x, u1x, Nat.reduceAdd]
    rw [v10]
    clear v10 hΦ e1
    refine wpList_nil ?_
    go_wp2_with fail
    exact bodyPost_ret (v := .bool true) (by simp [results, Tryz.results3, go_sem]) rfl (⟨_, rfl, S.ext, rfl⟩)
end Go.Proofs.YtknlaadcbhhbfaaGreatDoor
