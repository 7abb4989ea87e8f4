/-
 Packages genus and density: right, value, at a discriminant. (Printed by wip/gen/den10.py.)
 The reference of package genus: Value, refused. (Printed by wip/gen/den36.py.)
-/
import Derived.Test.YtknffgdbdadpcaaGreatDoorGen2
import Derived.Test.YtknffgdbdadpcaaGreatDoorDen33
namespace Go.Proofs.YtknffgdbdadpcaaGreatDoor
open Go Go.RowKit

set_option maxRecDepth 100000 in
set_option maxHeartbeats 4000000 in
theorem right_f {k1 n : Nat} {x : Value} {w : World} (hx : IsI k1 (-((n : Nat) : Int)) x w) (l1 : k1 ≤ 16777216) (hn : 1 ≤ n ∧ n ≤ 4194304 ∧ (n % 4 = 0 ∨ n % 4 = 3)) : Calls Tryz.prog 101 #[x] w (Ret w (IsT2 (IsV (.int .i64 (-((n : Nat) : Int)))) (IsV (.int .i64 0)))) := by
 have HK := hid l1
 obtain ⟨q, hq⟩ : ∃ x, (-((n : Nat) : Int)) / 4 = x := ⟨_, rfl⟩
 obtain ⟨r, hr⟩ : ∃ x, (-((n : Nat) : Int)) % 4 = x := ⟨_, rfl⟩
 have HQR := hid (And.intro hq hr)
 have hr1 : r ≤ 1 := by omega
 have HSG := hid (show (-((n : Nat) : Int)).sign = -1 from Int.sign_eq_neg_one_of_neg (by omega))
 obtain ⟨cq, hcq⟩ : ∃ x, cmpI r 1 = x := ⟨_, rfl⟩
 have HC1 := hid hcq
 have HC1B := hid (show decide (0 < cq) = false by
  rw [← hcq, decide_eq_false_iff_not]; unfold cmpI
  split
  ·decide
  ·rw [if_neg (by omega)]; decide)
 have HNB := hid hn.2.1
 clear l1 hn hq hr hr1 hcq
 obtain ⟨s1, a1, n1, c1, rfl, h1⟩ := hx
 have h1 : IsI _ _ _ w := ⟨_, _, _, _, rfl, h1⟩
 obtain ⟨W, hW, S⟩ : ∃ W, W = w.alloc (.cells #[.bool s1, .slice a1 n1 c1] 33) ∧ Sto w W [((w.heap.size, 0), IsI k1 (-((n : Nat) : Int)))] := ⟨_, rfl, ((Sto.start w).new1 (w.heap.size) (by simp) s1 a1 n1 c1 33 (IsI k1 (-((n : Nat) : Int))) (IsI.gstb _ _) (h1))⟩
 clear h1
 go_enter Tryz.func101, Tryz.ntmps101
 go_upto_region 1 with (fail)
 rw [← hW]
 clear hW
 have hl := hid S.lt; have hw := S.ext.size
 refine rgn 12 [some 10, some 11, some 12, some 9, some 13, some 14, some 15, some 4, some 5, none, none, some 6] [IsI k1 (-((n : Nat) : Int)), IsI 2 4, IsT3 (IsI k1 q) (IsI 2 r) (IsV (.int .i64 0)), IsT3 (IsI k1 q) (IsI 2 r) (IsV (.int .i64 0)), IsI k1 q, IsI 2 r, IsV (.int .i64 0), IsNw W 1, IsNw W 1, TT, TT, IsV (.int .i64 0)] [7, 8] [none, none, none, none, none, none, none, none, none, some (7, [IsI k1 q]), some (8, [IsI 2 r]), none] [none, none, none, none, none, none, none, none, none, some 7, some 8, none] 0 ?_ ?_
 ·refine RcK (ldI S 0 (w.heap.size) 0 (Od.lit 1) ld_Int) ?_
  refine RcK (cl1 (en Tryz.func41) Od.con (fun x0 w' hE d0 => by { obtain rfl : x0 = .int .i64 4 := d0; exact Of_f _ 4 (by decide) (by decide) })) ?_
  refine RcK (cl2 (en Tryz.func111) (Od.lc (Φ := IsI k1 (-((n : Nat) : Int))) 0 10) (Od.lc (Φ := IsI 2 4) 1 11) (fun x0 x1 w' hE d0 d1 => (by have hh := DivMod_f d0 d1 (by have := HK.out; omega) (by decide) (by decide); rw [HQR.out.1, HQR.out.2] at hh; exact hh))) ?_
  refine RcK (mv (Od.lc 2 12)) ?_
  refine RcK (ex (Od.loc 3 9) t30) ?_
  refine RcK (ex (Od.loc 3 9) t31) ?_
  refine RcK (ex (Od.loc 3 9) t32) ?_
  refine RcK (alN al_Int) ?_
  refine RcK (alN al_Int) ?_
  refine RcS 7 (sI st_Int (Od.lc (Φ := IsI k1 q) 4 13)) ?_
  refine RcS 8 (sI st_Int (Od.lc (Φ := IsI 2 r) 5 14)) ?_
  refine RcK (mv (Od.lc 6 15)) ?_
  exact RgAllN.nil
 intro v W1 e1 hΦ hS hne
 replace S := S.mono e1
 obtain ⟨g4, v7, q1, S2⟩ := S.addI (hΦ 7 (by decide) rfl) (hS 9 (by decide) _ _ rfl) hw (IsI.gstb _ _)
 replace S := S2 (ApartO.old hl.out q1); clear S2
 obtain ⟨g5, v8, q2, S2⟩ := S.addI (hΦ 8 (by decide) rfl) (hS 10 (by decide) _ _ rfl) hw (IsI.gstb _ _)
 replace S := S2 (ApartO.cons (fun h => hne 7 8 (by decide) (by decide) (by decide) (by decide) (by decide) rfl rfl (by rw [v7, v8, h])) (ApartO.old hl.out q2)); clear S2
 simp only [layL, Act.put, uAx, u0x, u1x, Nat.reduceAdd]
 rw [v7, v8]
 clear hl hw hne v7 v8 hΦ hS e1
 refine wpAny_done (by kernel_rfl) ?_ _
 go_upto_region 2 with (fail)
 refine rgs 7 [some 17, some 18, some 16, some 19, some 20, some 7, some 8] [IsI k1 (-((n : Nat) : Int)), IsT2 (IsV (.int .i64 (-((n : Nat) : Int)))) (IsV (.bool true)), IsT2 (IsV (.int .i64 (-((n : Nat) : Int)))) (IsV (.bool true)), IsV (.int .i64 (-((n : Nat) : Int))), IsV (.bool true), IsV (.int .i64 (-((n : Nat) : Int))), IsV (.bool true)] [] ?_ ?_
 ·refine Rc (ldI S 2 (w.heap.size) 0 (Od.lit 1) ld_Int) ?_
  refine Rc (cl1 (en Tryz.func42) (Od.lc (Φ := IsI k1 (-((n : Nat) : Int))) 0 17) (fun x0 w' hE d0 => Low_t d0 (by have := HNB.out; omega) (by have := HNB.out; omega))) ?_
  refine Rc (mv (Od.lc 1 18)) ?_
  refine Rc (ex (Od.loc 2 16) t20) ?_
  refine Rc (ex (Od.loc 2 16) t21) ?_
  refine Rc (mv (Od.lc 3 19)) ?_
  refine Rc (mv (Od.lc 4 20)) ?_
  exact RgAll.nil
 intro v W2 e1 hΦ _
 replace S := S.mono e1
 have v5 : v 5 = .int .i64 (-((n : Nat) : Int)) := hΦ 5 (by decide)
 have v6 : v 6 = .bool true := hΦ 6 (by decide)
 simp only [layL, Act.put, uAx, u0x, u1x, Nat.reduceAdd]
 rw [v5, v6]
 clear v5 v6 hΦ e1
 refine wpList_nil ?_
 go_upto_region 3 with (fail)
 refine rg 10 [some 22, some 23, some 24, some 25, some 26, some 27, some 28, some 29, some 30, some 21] [IsI k1 (-((n : Nat) : Int)), IsV (.int .i64 (-1)), IsV (.bool false), IsV (.bool false), IsI 2 r, IsI 2 1, IsV (.int .i64 cq), IsV (.bool false), IsV (.bool false), IsV (.bool false)] [] 0 ?_ ?_
 ·refine Rc (ldI S 2 (w.heap.size) 0 (Od.lit 1) ld_Int) ?_
  refine Rc (cl1 (en Tryz.func84) (Od.lc (Φ := IsI k1 (-((n : Nat) : Int))) 0 22) (fun x0 w' hE d0 => Calls.mono (Sign_f d0) fun _ _ h => h.int (HSG.out))) ?_
  refine Rc (bn (r := .bool false) (Od.loc 1 23) Od.con (hr := fun w => by go_simp)) ?_
  refine Rc (mv (Od.lc 2 24)) ?_
  refine RcG 3 25 false (ldI S 0 (g5) 0 (Od.lit 5) ld_Int) ?_
  refine RcG 3 25 false (cl1 (en Tryz.func41) Od.con (fun x0 w' hE d0 => by { obtain rfl : x0 = .int .i64 1 := d0; exact Of_f _ 1 (by decide) (by decide) })) ?_
  refine RcG 3 25 false (cl2 (en Tryz.func52) (Od.lc (Φ := IsI 2 r) 4 26) (Od.lc (Φ := IsI 2 1) 5 27) (fun x0 x1 w' hE d0 d1 => Calls.mono (Cmp_f d0 d1 (by decide) (by decide)) fun _ _ h => h.int HC1.out)) ?_
  refine RcG 3 25 false (bn (r := .bool false) (Od.loc 6 28) Od.con (hr := fun w => by have hx9 := HC1B.out; go_simp)) ?_
  refine Rc (pk (Od.loc 3 25) (Od.lc 7 29)) ?_
  refine Rc (mv (Od.lc 8 30)) ?_
  exact RgAll.nil
 intro v W3 e1 hΦ _
 replace S := S.mono e1
 have v9 : v 9 = .bool false := hΦ 9 (by decide)
 simp only [layL, Act.put, uAx, u0x, u1x, Nat.reduceAdd]
 rw [v9]
 clear v9 hΦ e1
 refine wpAny_done (by kernel_rfl) ?_ _
 go_upto_region 5 with (fail)
 refine rgs 7 [some 32, some 33, some 34, some 35, some 36, some 37, some 31] [IsV (.bool true), IsV (.bool false), IsV (.bool false), IsV (.int .i64 (-((n : Nat) : Int))), IsV (.bool false), IsV (.bool false), IsV (.bool false)] [] ?_ ?_
 ·refine Rc (mv (Od.lit 8)) ?_
  refine Rc (nt (Od.loc 0 32)) ?_
  refine Rc (mv (Od.lc 1 33)) ?_
  refine RcG 2 34 false (mv (Od.lit 7)) ?_
  refine RcG 2 34 false (bn (r := .bool false) (Od.loc 3 35) Od.con (hr := fun w => by have hx9 := HNB.out; have hx8 : ((n : Nat) : Int) ≤ 4194304 := (by omega); go_simp)) ?_
  refine Rc (pk (Od.loc 2 34) (Od.lc 4 36)) ?_
  refine Rc (mv (Od.lc 5 37)) ?_
  exact RgAll.nil
 intro v W4 e1 hΦ _
 replace S := S.mono e1
 have v6 : v 6 = .bool false := hΦ 6 (by decide)
 simp only [layL, Act.put, uAx, u0x, u1x, Nat.reduceAdd]
 rw [v6]
 clear v6 hΦ e1
 refine wpList_nil ?_
 go_upto_region 7 with (fail)
 refine rgs 3 [some 38, some 2, some 3] [IsV (.int .i64 (-((n : Nat) : Int))), IsV (.int .i64 (-((n : Nat) : Int))), IsV (.int .i64 0)] [] ?_ ?_
 ·refine Rc (mv (Od.lit 7)) ?_
  refine Rc (mv (Od.lc 0 38)) ?_
  refine Rc (mv Od.con) ?_
  exact RgAll.nil
 intro v W5 e1 hΦ _
 replace S := S.mono e1
 have v1 : v 1 = .int .i64 (-((n : Nat) : Int)) := hΦ 1 (by decide)
 have v2 : v 2 = .int .i64 0 := hΦ 2 (by decide)
 simp only [layL, Act.put, uAx, u0x, u1x, Nat.reduceAdd]
 rw [v1, v2]
 clear v1 v2 hΦ e1
 refine wpList_nil ?_
 go_wp2_with fail
 exact bodyPost_ret (v := .tuple #[.int .i64 (-((n : Nat) : Int)), .int .i64 0]) (by simp [results, Tryz.results101, go_sem]) rfl (⟨_, rfl, S.ext, ⟨_, _, rfl, rfl, rfl⟩⟩)

set_option maxRecDepth 100000 in
set_option maxHeartbeats 4000000 in
theorem value_m4 {k1 m : Nat} {x : Value} {w : World} (hx : IsI k1 ((m : Nat) : Int) x w) (HK : Hid (k1 ≤ 33554432)) (HSG : Hid (Sg w)) (HM : Hid (0 < m ∧ m ≤ 4611686018427387904)) (u : Int) (HV : Hid (kr (-4) m = u)) : Calls Tryz.prog 54 #[.int .i64 (-4), x] w (Ret w (IsV (.int .i64 u))) := by
 obtain ⟨s1, a1, n1, c1, rfl, h1⟩ := hx
 have h1 : IsI _ _ _ w := ⟨_, _, _, _, rfl, h1⟩
 obtain ⟨W, hW, S⟩ : ∃ W, W = w.alloc (.cells #[.bool s1, .slice a1 n1 c1] 33) ∧ Sto w W [((w.heap.size, 0), IsI k1 (((m : Nat) : Int)))] := ⟨_, rfl, ((Sto.start w).new1 (w.heap.size) (by simp) s1 a1 n1 c1 33 (IsI k1 (((m : Nat) : Int))) (IsI.gstb _ _) (h1))⟩
 clear h1
 go_enter Tryz.func54, Tryz.ntmps54
 go_upto_region 1 with (fail)
 rw [← hW]
 clear hW
 refine rgs 10 [some 5, some 6, some 7, some 8, some 9, some 10, some 11, some 12, some 13, some 14] [IsV (.int .i64 (-4)), IsV (.bool true), IsV (.bool true), IsV (undef), IsV (undef), IsV (.bool true), IsV (.bool true), IsV (undef), IsV (undef), IsV (.bool true)] [] ?_ ?_
 ·refine Rc (mv (Od.lit 0)) ?_
  refine Rc (bn (r := .bool true) (Od.loc 0 5) Od.con (hr := fun w => by go_simp)) ?_
  refine Rc (mv (Od.lc 1 6)) ?_
  refine RcN 2 7 true ?_
  refine RcN 2 7 true ?_
  refine Rc (pk (Od.loc 2 7) Od.con) ?_
  refine Rc (mv (Od.lc 5 10)) ?_
  refine RcN 6 11 true ?_
  refine RcN 6 11 true ?_
  refine Rc (pk (Od.loc 6 11) Od.con) ?_
  exact RgAll.nil
 intro v W1 e1 hΦ _
 replace S := S.mono e1
 have v9 : v 9 = .bool true := hΦ 9 (by decide)
 simp only [layL, Act.put, uAx, u0x, u1x, Nat.reduceAdd]
 rw [v9]
 clear v9 hΦ e1
 refine wpList_nil ?_
 go_upto_region 2 with (fail)
 refine rg 5 [some 15, some 16, some 17, some 18, some 4] [IsV (.int .i64 (-4)), IsI 2 ((-4)), IsI k1 (((m : Nat) : Int)), IsV (.int .i64 u), IsV (.int .i64 u)] [] 0 ?_ ?_
 ·refine Rc (mv (Od.lit 0)) ?_
  refine Rc (cl1 (en Tryz.func41) (Od.lc (Φ := IsV (.int .i64 (-4))) 0 15) (fun x0 w' hE d0 => by { obtain rfl : x0 = .int .i64 (-4) := d0; exact Of_f _ (-4) (by decide) (by decide) })) ?_
  refine Rc (ldI S 0 (w.heap.size) 0 (Od.lit 3) ld_Int) ?_
  refine Rc (cl2 (en Tryz.func62) (Od.lc (Φ := IsI 2 ((-4))) 1 16) (Od.lc (Φ := IsI k1 (((m : Nat) : Int))) 2 17) (fun x0 x1 w' hE d0 d1 => (by have hh := Kron_f d0 d1 (by decide) (by have := HK.out; omega) (HSG.out.ext (S.ext.trans hE)) HM.out; rw [HV.out] at hh; exact hh))) ?_
  refine Rc (mv (Od.lc 3 18)) ?_
  exact RgAll.nil
 intro v W2 e1 hΦ _
 replace S := S.mono e1
 have v4 : v 4 = .int .i64 u := hΦ 4 (by decide)
 simp only [layL, Act.put, uAx, u0x, u1x, Nat.reduceAdd]
 rw [v4]
 clear v4 hΦ e1
 refine wpAny_done (by kernel_rfl) ?_ _
 go_wp2_with fail
 exact bodyPost_ret (v := .int .i64 u) (by simp [results, Tryz.results54, go_sem]) rfl (⟨_, rfl, S.ext, rfl⟩)

set_option maxRecDepth 100000 in
set_option maxHeartbeats 4000000 in
theorem value_p8 {k1 m : Nat} {x : Value} {w : World} (hx : IsI k1 ((m : Nat) : Int) x w) (HK : Hid (k1 ≤ 33554432)) (HSG : Hid (Sg w)) (HM : Hid (0 < m ∧ m ≤ 4611686018427387904)) (u : Int) (HV : Hid (kr (8) m = u)) : Calls Tryz.prog 54 #[.int .i64 (8), x] w (Ret w (IsV (.int .i64 u))) := by
 obtain ⟨s1, a1, n1, c1, rfl, h1⟩ := hx
 have h1 : IsI _ _ _ w := ⟨_, _, _, _, rfl, h1⟩
 obtain ⟨W, hW, S⟩ : ∃ W, W = w.alloc (.cells #[.bool s1, .slice a1 n1 c1] 33) ∧ Sto w W [((w.heap.size, 0), IsI k1 (((m : Nat) : Int)))] := ⟨_, rfl, ((Sto.start w).new1 (w.heap.size) (by simp) s1 a1 n1 c1 33 (IsI k1 (((m : Nat) : Int))) (IsI.gstb _ _) (h1))⟩
 clear h1
 go_enter Tryz.func54, Tryz.ntmps54
 go_upto_region 1 with (fail)
 rw [← hW]
 clear hW
 refine rgs 10 [some 5, some 6, some 7, some 8, some 9, some 10, some 11, some 12, some 13, some 14] [IsV (.int .i64 8), IsV (.bool false), IsV (.bool false), IsV (.int .i64 8), IsV (.bool true), IsV (.bool true), IsV (.bool true), IsV (undef), IsV (undef), IsV (.bool true)] [] ?_ ?_
 ·refine Rc (mv (Od.lit 0)) ?_
  refine Rc (bn (r := .bool false) (Od.loc 0 5) Od.con (hr := fun w => by go_simp)) ?_
  refine Rc (mv (Od.lc 1 6)) ?_
  refine RcG 2 7 false (mv (Od.lit 0)) ?_
  refine RcG 2 7 false (bn (r := .bool true) (Od.loc 3 8) Od.con (hr := fun w => by go_simp)) ?_
  refine Rc (pk (Od.loc 2 7) (Od.lc 4 9)) ?_
  refine Rc (mv (Od.lc 5 10)) ?_
  refine RcN 6 11 true ?_
  refine RcN 6 11 true ?_
  refine Rc (pk (Od.loc 6 11) Od.con) ?_
  exact RgAll.nil
 intro v W1 e1 hΦ _
 replace S := S.mono e1
 have v9 : v 9 = .bool true := hΦ 9 (by decide)
 simp only [layL, Act.put, uAx, u0x, u1x, Nat.reduceAdd]
 rw [v9]
 clear v9 hΦ e1
 refine wpList_nil ?_
 go_upto_region 2 with (fail)
 refine rg 5 [some 15, some 16, some 17, some 18, some 4] [IsV (.int .i64 8), IsI 2 8, IsI k1 (((m : Nat) : Int)), IsV (.int .i64 u), IsV (.int .i64 u)] [] 0 ?_ ?_
 ·refine Rc (mv (Od.lit 0)) ?_
  refine Rc (cl1 (en Tryz.func41) (Od.lc (Φ := IsV (.int .i64 8)) 0 15) (fun x0 w' hE d0 => by { obtain rfl : x0 = .int .i64 8 := d0; exact Of_f _ 8 (by decide) (by decide) })) ?_
  refine Rc (ldI S 0 (w.heap.size) 0 (Od.lit 3) ld_Int) ?_
  refine Rc (cl2 (en Tryz.func62) (Od.lc (Φ := IsI 2 8) 1 16) (Od.lc (Φ := IsI k1 (((m : Nat) : Int))) 2 17) (fun x0 x1 w' hE d0 d1 => (by have hh := Kron_f d0 d1 (by decide) (by have := HK.out; omega) (HSG.out.ext (S.ext.trans hE)) HM.out; rw [HV.out] at hh; exact hh))) ?_
  refine Rc (mv (Od.lc 3 18)) ?_
  exact RgAll.nil
 intro v W2 e1 hΦ _
 replace S := S.mono e1
 have v4 : v 4 = .int .i64 u := hΦ 4 (by decide)
 simp only [layL, Act.put, uAx, u0x, u1x, Nat.reduceAdd]
 rw [v4]
 clear v4 hΦ e1
 refine wpAny_done (by kernel_rfl) ?_ _
 go_wp2_with fail
 exact bodyPost_ret (v := .int .i64 u) (by simp [results, Tryz.results54, go_sem]) rfl (⟨_, rfl, S.ext, rfl⟩)

set_option maxRecDepth 100000 in
set_option maxHeartbeats 4000000 in
theorem value_m8 {k1 m : Nat} {x : Value} {w : World} (hx : IsI k1 ((m : Nat) : Int) x w) (HK : Hid (k1 ≤ 33554432)) (HSG : Hid (Sg w)) (HM : Hid (0 < m ∧ m ≤ 4611686018427387904)) (u : Int) (HV : Hid (kr (-8) m = u)) : Calls Tryz.prog 54 #[.int .i64 (-8), x] w (Ret w (IsV (.int .i64 u))) := by
 obtain ⟨s1, a1, n1, c1, rfl, h1⟩ := hx
 have h1 : IsI _ _ _ w := ⟨_, _, _, _, rfl, h1⟩
 obtain ⟨W, hW, S⟩ : ∃ W, W = w.alloc (.cells #[.bool s1, .slice a1 n1 c1] 33) ∧ Sto w W [((w.heap.size, 0), IsI k1 (((m : Nat) : Int)))] := ⟨_, rfl, ((Sto.start w).new1 (w.heap.size) (by simp) s1 a1 n1 c1 33 (IsI k1 (((m : Nat) : Int))) (IsI.gstb _ _) (h1))⟩
 clear h1
 go_enter Tryz.func54, Tryz.ntmps54
 go_upto_region 1 with (fail)
 rw [← hW]
 clear hW
 refine rgs 10 [some 5, some 6, some 7, some 8, some 9, some 10, some 11, some 12, some 13, some 14] [IsV (.int .i64 (-8)), IsV (.bool false), IsV (.bool false), IsV (.int .i64 (-8)), IsV (.bool false), IsV (.bool false), IsV (.bool false), IsV (.int .i64 (-8)), IsV (.bool true), IsV (.bool true)] [] ?_ ?_
 ·refine Rc (mv (Od.lit 0)) ?_
  refine Rc (bn (r := .bool false) (Od.loc 0 5) Od.con (hr := fun w => by go_simp)) ?_
  refine Rc (mv (Od.lc 1 6)) ?_
  refine RcG 2 7 false (mv (Od.lit 0)) ?_
  refine RcG 2 7 false (bn (r := .bool false) (Od.loc 3 8) Od.con (hr := fun w => by go_simp)) ?_
  refine Rc (pk (Od.loc 2 7) (Od.lc 4 9)) ?_
  refine Rc (mv (Od.lc 5 10)) ?_
  refine RcG 6 11 false (mv (Od.lit 0)) ?_
  refine RcG 6 11 false (bn (r := .bool true) (Od.loc 7 12) Od.con (hr := fun w => by go_simp)) ?_
  refine Rc (pk (Od.loc 6 11) (Od.lc 8 13)) ?_
  exact RgAll.nil
 intro v W1 e1 hΦ _
 replace S := S.mono e1
 have v9 : v 9 = .bool true := hΦ 9 (by decide)
 simp only [layL, Act.put, uAx, u0x, u1x, Nat.reduceAdd]
 rw [v9]
 clear v9 hΦ e1
 refine wpList_nil ?_
 go_upto_region 2 with (fail)
 refine rg 5 [some 15, some 16, some 17, some 18, some 4] [IsV (.int .i64 (-8)), IsI 2 ((-8)), IsI k1 (((m : Nat) : Int)), IsV (.int .i64 u), IsV (.int .i64 u)] [] 0 ?_ ?_
 ·refine Rc (mv (Od.lit 0)) ?_
  refine Rc (cl1 (en Tryz.func41) (Od.lc (Φ := IsV (.int .i64 (-8))) 0 15) (fun x0 w' hE d0 => by { obtain rfl : x0 = .int .i64 (-8) := d0; exact Of_f _ (-8) (by decide) (by decide) })) ?_
  refine Rc (ldI S 0 (w.heap.size) 0 (Od.lit 3) ld_Int) ?_
  refine Rc (cl2 (en Tryz.func62) (Od.lc (Φ := IsI 2 ((-8))) 1 16) (Od.lc (Φ := IsI k1 (((m : Nat) : Int))) 2 17) (fun x0 x1 w' hE d0 d1 => (by have hh := Kron_f d0 d1 (by decide) (by have := HK.out; omega) (HSG.out.ext (S.ext.trans hE)) HM.out; rw [HV.out] at hh; exact hh))) ?_
  refine Rc (mv (Od.lc 3 18)) ?_
  exact RgAll.nil
 intro v W2 e1 hΦ _
 replace S := S.mono e1
 have v4 : v 4 = .int .i64 u := hΦ 4 (by decide)
 simp only [layL, Act.put, uAx, u0x, u1x, Nat.reduceAdd]
 rw [v4]
 clear v4 hΦ e1
 refine wpAny_done (by kernel_rfl) ?_ _
 go_wp2_with fail
 exact bodyPost_ret (v := .int .i64 u) (by simp [results, Tryz.results54, go_sem]) rfl (⟨_, rfl, S.ext, rfl⟩)

set_option maxRecDepth 100000 in
set_option maxHeartbeats 4000000 in
theorem value_odd {q : Nat} {k1 m : Nat} {x : Value} {w : World} (hx : IsI k1 ((m : Nat) : Int) x w) (HK : Hid (k1 ≤ 33554432)) (HSG : Hid (Sg w)) (u : Int) (HV : Hid (kr ((m : Nat) : Int) q = u)) (HC : Hid ((((q : Nat) : Int) == -4) = false ∧ (((q : Nat) : Int) == 8) = false ∧ (((q : Nat) : Int) == -8) = false)) (HB : Hid (-9223372036854775808 ≤ ((q : Nat) : Int) ∧ ((q : Nat) : Int) ≤ 9223372036854775807 ∧ 0 < q ∧ q ≤ 4611686018427387904)) : Calls Tryz.prog 54 #[.int .i64 ((q : Nat) : Int), x] w (Ret w (IsV (.int .i64 u))) := by
 obtain ⟨s1, a1, n1, c1, rfl, h1⟩ := hx
 have h1 : IsI _ _ _ w := ⟨_, _, _, _, rfl, h1⟩
 obtain ⟨W, hW, S⟩ : ∃ W, W = w.alloc (.cells #[.bool s1, .slice a1 n1 c1] 33) ∧ Sto w W [((w.heap.size, 0), IsI k1 (((m : Nat) : Int)))] := ⟨_, rfl, ((Sto.start w).new1 (w.heap.size) (by simp) s1 a1 n1 c1 33 (IsI k1 (((m : Nat) : Int))) (IsI.gstb _ _) (h1))⟩
 clear h1
 go_enter Tryz.func54, Tryz.ntmps54
 go_upto_region 1 with (fail)
 rw [← hW]
 clear hW
 refine rgs 10 [some 5, some 6, some 7, some 8, some 9, some 10, some 11, some 12, some 13, some 14] [IsV (.int .i64 ((q : Nat) : Int)), IsV (.bool false), IsV (.bool false), IsV (.int .i64 ((q : Nat) : Int)), IsV (.bool false), IsV (.bool false), IsV (.bool false), IsV (.int .i64 ((q : Nat) : Int)), IsV (.bool false), IsV (.bool false)] [] ?_ ?_
 ·refine Rc (mv (Od.lit 0)) ?_
  refine Rc (bn (r := .bool false) (Od.loc 0 5) Od.con (hr := fun w => by have hx9 := HC.out.1; go_simp)) ?_
  refine Rc (mv (Od.lc 1 6)) ?_
  refine RcG 2 7 false (mv (Od.lit 0)) ?_
  refine RcG 2 7 false (bn (r := .bool false) (Od.loc 3 8) Od.con (hr := fun w => by have hx9 := HC.out.2.1; go_simp)) ?_
  refine Rc (pk (Od.loc 2 7) (Od.lc 4 9)) ?_
  refine Rc (mv (Od.lc 5 10)) ?_
  refine RcG 6 11 false (mv (Od.lit 0)) ?_
  refine RcG 6 11 false (bn (r := .bool false) (Od.loc 7 12) Od.con (hr := fun w => by have hx9 := HC.out.2.2; go_simp)) ?_
  refine Rc (pk (Od.loc 6 11) (Od.lc 8 13)) ?_
  exact RgAll.nil
 intro v W1 e1 hΦ _
 replace S := S.mono e1
 have v9 : v 9 = .bool false := hΦ 9 (by decide)
 simp only [layL, Act.put, uAx, u0x, u1x, Nat.reduceAdd]
 rw [v9]
 clear v9 hΦ e1
 refine wpList_nil ?_
 go_upto_region 3 with (fail)
 refine rg 5 [some 19, some 20, some 21, some 22, some 4] [IsI k1 (((m : Nat) : Int)), IsV (.int .i64 ((q : Nat) : Int)), IsI 2 (((q : Nat) : Int)), IsV (.int .i64 u), IsV (.int .i64 u)] [] 0 ?_ ?_
 ·refine Rc (ldI S 0 (w.heap.size) 0 (Od.lit 3) ld_Int) ?_
  refine Rc (mv (Od.lit 0)) ?_
  refine Rc (cl1 (en Tryz.func41) (Od.lc (Φ := IsV (.int .i64 ((q : Nat) : Int))) 1 20) (fun x0 w' hE d0 => by { obtain rfl : x0 = .int .i64 ((q : Nat) : Int) := d0; exact Of_f _ ((q : Nat) : Int) HB.out.1 HB.out.2.1 })) ?_
  refine Rc (cl2 (en Tryz.func62) (Od.lc (Φ := IsI k1 (((m : Nat) : Int))) 0 19) (Od.lc (Φ := IsI 2 (((q : Nat) : Int))) 2 21) (fun x0 x1 w' hE d0 d1 => (by have hh := Kron_f d0 d1 (by have := HK.out; omega) (by decide) (HSG.out.ext (S.ext.trans hE)) HB.out.2.2; rw [HV.out] at hh; exact hh))) ?_
  refine Rc (mv (Od.lc 3 22)) ?_
  exact RgAll.nil
 intro v W2 e1 hΦ _
 replace S := S.mono e1
 have v4 : v 4 = .int .i64 u := hΦ 4 (by decide)
 simp only [layL, Act.put, uAx, u0x, u1x, Nat.reduceAdd]
 rw [v4]
 clear v4 hΦ e1
 refine wpAny_done (by kernel_rfl) ?_ _
 go_wp2_with fail
 exact bodyPost_ret (v := .int .i64 u) (by simp [results, Tryz.results54, go_sem]) rfl (⟨_, rfl, S.ext, rfl⟩)

/-- The value of a character at a number. -/
def chV (c : Int) (m : Nat) : Int := if c = -4 ∨ c = 8 ∨ c = -8 then kr c m else kr ((m : Nat) : Int) c.toNat
theorem value_f {k1 m : Nat} {x : Value} {w : World} (hx : IsI k1 ((m : Nat) : Int) x w) (l1 : k1 ≤ 33554432) (hs : Sg w) (hm : 0 < m ∧ m ≤ 4611686018427387904) (c : Int) (hc : (c = -4 ∨ c = 8 ∨ c = -8) ∨ (0 < c ∧ c ≤ 4194304)) :
  Calls Tryz.prog 54 #[.int .i64 c, x] w (Ret w (IsV (.int .i64 (chV c m)))) := by
 unfold chV
 by_cases h : c = -4 ∨ c = 8 ∨ c = -8
 ·rw [if_pos h]
  rcases h with rfl | rfl | rfl
  ·exact value_m4 hx (hid l1) (hid hs) (hid hm) _ (hid rfl)
  ·exact value_p8 hx (hid l1) (hid hs) (hid hm) _ (hid rfl)
  ·exact value_m8 hx (hid l1) (hid hs) (hid hm) _ (hid rfl)
 ·rw [if_neg h]
  have hc := hc.resolve_left h
  obtain ⟨q, rfl⟩ := Int.eq_ofNat_of_zero_le (show 0 ≤ c by omega)
  refine value_odd hx (hid l1) (hid hs) _ (hid (by rw [Int.toNat_natCast])) (hid ?_) (hid (by omega))
  refine ⟨?_, ?_, ?_⟩ <;> (rw [beq_eq_false_iff_ne]; omega)
end Go.Proofs.YtknffgdbdadpcaaGreatDoor
namespace Go.Proofs.YtknffgdbdadpcaaGreatDoor
open Go Go.RowKit

set_option maxRecDepth 100000 in
set_option maxHeartbeats 8000000 in
theorem rval_m4 {k2 m : Nat} {vv : Int} {y : Value} {w : World} (hy : IsI k2 ((m : Nat) : Int) y w) (HK : Hid (k2 ≤ 67108864)) (HM : Hid (0 < m ∧ m ≤ 4611686018427387904)) (HV : Hid (kr (-4) m = vv)) : Calls Tryz.prog 56 #[.int .i64 (-4), y] w (Ret w (IsV (.int .i64 vv))) := by
 obtain ⟨s1, a1, n1, c1, rfl, h1⟩ := hy
 have h1 : IsI _ _ _ w := ⟨_, _, _, _, rfl, h1⟩
 obtain ⟨W, hW, S⟩ : ∃ W, W = w.alloc (.cells #[.bool s1, .slice a1 n1 c1] 33) ∧ Sto w W [((w.heap.size, 0), IsI k2 (((m : Nat) : Int)))] := ⟨_, rfl, ((Sto.start w).new1 (w.heap.size) (by simp) s1 a1 n1 c1 33 (IsI k2 (((m : Nat) : Int))) (IsI.gstb _ _) (h1))⟩
 clear h1
 go_enter Tryz.func56, Tryz.ntmps56
 go_upto_region 1 with (fail)
 rw [← hW]
 clear hW
 refine rgs 10 [some 5, some 6, some 7, some 8, some 9, some 10, some 11, some 12, some 13, some 14] [IsV (.int .i64 (-4)), IsV (.bool true), IsV (.bool true), IsV (undef), IsV (undef), IsV (.bool true), IsV (.bool true), IsV (undef), IsV (undef), IsV (.bool true)] [] ?_ ?_
 ·refine Rc (mv (Od.lit 0)) ?_
  refine Rc (bn (r := .bool true) (Od.loc 0 5) Od.con (hr := fun w => by go_simp)) ?_
  refine Rc (mv (Od.lc 1 6)) ?_
  refine RcN 2 7 true ?_
  refine RcN 2 7 true ?_
  refine Rc (pk (Od.loc 2 7) Od.con) ?_
  refine Rc (mv (Od.lc 5 10)) ?_
  refine RcN 6 11 true ?_
  refine RcN 6 11 true ?_
  refine Rc (pk (Od.loc 6 11) Od.con) ?_
  exact RgAll.nil
 intro v W1 e1 hΦ _
 replace S := S.mono e1
 have v9 : v 9 = .bool true := hΦ 9 (by decide)
 simp only [layL, Act.put, uAx, u0x, u1x, Nat.reduceAdd]
 rw [v9]
 clear v9 hΦ e1
 refine wpList_nil ?_
 go_upto_region 2 with (fail)
 refine rg 5 [some 15, some 16, some 17, some 18, some 4] [IsV (.int .i64 (-4)), IsI 2 ((-4)), IsI k2 (((m : Nat) : Int)), IsV (.int .i64 vv), IsV (.int .i64 vv)] [] 0 ?_ ?_
 ·refine Rc (mv (Od.lit 0)) ?_
  refine Rc (cl1 (en Tryz.func22) (Od.lc (Φ := IsV (.int .i64 (-4))) 0 15) (fun x0 w' hE d0 => by { obtain rfl : x0 = .int .i64 (-4) := d0; exact ROf_f _ (-4) (by decide) (by decide) })) ?_
  refine Rc (ldI S 0 (w.heap.size) 0 (Od.lit 3) ld_Int) ?_
  refine Rc (cl2 (en Tryz.func48) (Od.lc (Φ := IsI 2 ((-4))) 1 16) (Od.lc (Φ := IsI k2 (((m : Nat) : Int))) 2 17) (fun x0 x1 w' hE d0 d1 => Calls.mono (RKron_f d0 d1 (by decide) HK.out HM.out) fun _ _ h => h.int HV.out)) ?_
  refine Rc (mv (Od.lc 3 18)) ?_
  exact RgAll.nil
 intro v W2 e1 hΦ _
 replace S := S.mono e1
 have v4 : v 4 = .int .i64 vv := hΦ 4 (by decide)
 simp only [layL, Act.put, uAx, u0x, u1x, Nat.reduceAdd]
 rw [v4]
 clear v4 hΦ e1
 refine wpAny_done (by kernel_rfl) ?_ _
 go_wp2_with fail
 exact bodyPost_ret (v := .int .i64 vv) (by simp [results, Tryz.results56, go_sem]) rfl (⟨_, rfl, S.ext, rfl⟩)

set_option maxRecDepth 100000 in
set_option maxHeartbeats 8000000 in
theorem rval_8 {k2 m : Nat} {vv : Int} {y : Value} {w : World} (hy : IsI k2 ((m : Nat) : Int) y w) (HK : Hid (k2 ≤ 67108864)) (HM : Hid (0 < m ∧ m ≤ 4611686018427387904)) (HV : Hid (kr 8 m = vv)) : Calls Tryz.prog 56 #[.int .i64 8, y] w (Ret w (IsV (.int .i64 vv))) := by
 obtain ⟨s1, a1, n1, c1, rfl, h1⟩ := hy
 have h1 : IsI _ _ _ w := ⟨_, _, _, _, rfl, h1⟩
 obtain ⟨W, hW, S⟩ : ∃ W, W = w.alloc (.cells #[.bool s1, .slice a1 n1 c1] 33) ∧ Sto w W [((w.heap.size, 0), IsI k2 (((m : Nat) : Int)))] := ⟨_, rfl, ((Sto.start w).new1 (w.heap.size) (by simp) s1 a1 n1 c1 33 (IsI k2 (((m : Nat) : Int))) (IsI.gstb _ _) (h1))⟩
 clear h1
 go_enter Tryz.func56, Tryz.ntmps56
 go_upto_region 1 with (fail)
 rw [← hW]
 clear hW
 refine rgs 10 [some 5, some 6, some 7, some 8, some 9, some 10, some 11, some 12, some 13, some 14] [IsV (.int .i64 8), IsV (.bool false), IsV (.bool false), IsV (.int .i64 8), IsV (.bool true), IsV (.bool true), IsV (.bool true), IsV (undef), IsV (undef), IsV (.bool true)] [] ?_ ?_
 ·refine Rc (mv (Od.lit 0)) ?_
  refine Rc (bn (r := .bool false) (Od.loc 0 5) Od.con (hr := fun w => by go_simp)) ?_
  refine Rc (mv (Od.lc 1 6)) ?_
  refine RcG 2 7 false (mv (Od.lit 0)) ?_
  refine RcG 2 7 false (bn (r := .bool true) (Od.loc 3 8) Od.con (hr := fun w => by go_simp)) ?_
  refine Rc (pk (Od.loc 2 7) (Od.lc 4 9)) ?_
  refine Rc (mv (Od.lc 5 10)) ?_
  refine RcN 6 11 true ?_
  refine RcN 6 11 true ?_
  refine Rc (pk (Od.loc 6 11) Od.con) ?_
  exact RgAll.nil
 intro v W1 e1 hΦ _
 replace S := S.mono e1
 have v9 : v 9 = .bool true := hΦ 9 (by decide)
 simp only [layL, Act.put, uAx, u0x, u1x, Nat.reduceAdd]
 rw [v9]
 clear v9 hΦ e1
 refine wpList_nil ?_
 go_upto_region 2 with (fail)
 refine rg 5 [some 15, some 16, some 17, some 18, some 4] [IsV (.int .i64 8), IsI 2 8, IsI k2 (((m : Nat) : Int)), IsV (.int .i64 vv), IsV (.int .i64 vv)] [] 0 ?_ ?_
 ·refine Rc (mv (Od.lit 0)) ?_
  refine Rc (cl1 (en Tryz.func22) (Od.lc (Φ := IsV (.int .i64 8)) 0 15) (fun x0 w' hE d0 => by { obtain rfl : x0 = .int .i64 8 := d0; exact ROf_f _ 8 (by decide) (by decide) })) ?_
  refine Rc (ldI S 0 (w.heap.size) 0 (Od.lit 3) ld_Int) ?_
  refine Rc (cl2 (en Tryz.func48) (Od.lc (Φ := IsI 2 8) 1 16) (Od.lc (Φ := IsI k2 (((m : Nat) : Int))) 2 17) (fun x0 x1 w' hE d0 d1 => Calls.mono (RKron_f d0 d1 (by decide) HK.out HM.out) fun _ _ h => h.int HV.out)) ?_
  refine Rc (mv (Od.lc 3 18)) ?_
  exact RgAll.nil
 intro v W2 e1 hΦ _
 replace S := S.mono e1
 have v4 : v 4 = .int .i64 vv := hΦ 4 (by decide)
 simp only [layL, Act.put, uAx, u0x, u1x, Nat.reduceAdd]
 rw [v4]
 clear v4 hΦ e1
 refine wpAny_done (by kernel_rfl) ?_ _
 go_wp2_with fail
 exact bodyPost_ret (v := .int .i64 vv) (by simp [results, Tryz.results56, go_sem]) rfl (⟨_, rfl, S.ext, rfl⟩)

set_option maxRecDepth 100000 in
set_option maxHeartbeats 8000000 in
theorem rval_m8 {k2 m : Nat} {vv : Int} {y : Value} {w : World} (hy : IsI k2 ((m : Nat) : Int) y w) (HK : Hid (k2 ≤ 67108864)) (HM : Hid (0 < m ∧ m ≤ 4611686018427387904)) (HV : Hid (kr (-8) m = vv)) : Calls Tryz.prog 56 #[.int .i64 (-8), y] w (Ret w (IsV (.int .i64 vv))) := by
 obtain ⟨s1, a1, n1, c1, rfl, h1⟩ := hy
 have h1 : IsI _ _ _ w := ⟨_, _, _, _, rfl, h1⟩
 obtain ⟨W, hW, S⟩ : ∃ W, W = w.alloc (.cells #[.bool s1, .slice a1 n1 c1] 33) ∧ Sto w W [((w.heap.size, 0), IsI k2 (((m : Nat) : Int)))] := ⟨_, rfl, ((Sto.start w).new1 (w.heap.size) (by simp) s1 a1 n1 c1 33 (IsI k2 (((m : Nat) : Int))) (IsI.gstb _ _) (h1))⟩
 clear h1
 go_enter Tryz.func56, Tryz.ntmps56
 go_upto_region 1 with (fail)
 rw [← hW]
 clear hW
 refine rgs 10 [some 5, some 6, some 7, some 8, some 9, some 10, some 11, some 12, some 13, some 14] [IsV (.int .i64 (-8)), IsV (.bool false), IsV (.bool false), IsV (.int .i64 (-8)), IsV (.bool false), IsV (.bool false), IsV (.bool false), IsV (.int .i64 (-8)), IsV (.bool true), IsV (.bool true)] [] ?_ ?_
 ·refine Rc (mv (Od.lit 0)) ?_
  refine Rc (bn (r := .bool false) (Od.loc 0 5) Od.con (hr := fun w => by go_simp)) ?_
  refine Rc (mv (Od.lc 1 6)) ?_
  refine RcG 2 7 false (mv (Od.lit 0)) ?_
  refine RcG 2 7 false (bn (r := .bool false) (Od.loc 3 8) Od.con (hr := fun w => by go_simp)) ?_
  refine Rc (pk (Od.loc 2 7) (Od.lc 4 9)) ?_
  refine Rc (mv (Od.lc 5 10)) ?_
  refine RcG 6 11 false (mv (Od.lit 0)) ?_
  refine RcG 6 11 false (bn (r := .bool true) (Od.loc 7 12) Od.con (hr := fun w => by go_simp)) ?_
  refine Rc (pk (Od.loc 6 11) (Od.lc 8 13)) ?_
  exact RgAll.nil
 intro v W1 e1 hΦ _
 replace S := S.mono e1
 have v9 : v 9 = .bool true := hΦ 9 (by decide)
 simp only [layL, Act.put, uAx, u0x, u1x, Nat.reduceAdd]
 rw [v9]
 clear v9 hΦ e1
 refine wpList_nil ?_
 go_upto_region 2 with (fail)
 refine rg 5 [some 15, some 16, some 17, some 18, some 4] [IsV (.int .i64 (-8)), IsI 2 ((-8)), IsI k2 (((m : Nat) : Int)), IsV (.int .i64 vv), IsV (.int .i64 vv)] [] 0 ?_ ?_
 ·refine Rc (mv (Od.lit 0)) ?_
  refine Rc (cl1 (en Tryz.func22) (Od.lc (Φ := IsV (.int .i64 (-8))) 0 15) (fun x0 w' hE d0 => by { obtain rfl : x0 = .int .i64 (-8) := d0; exact ROf_f _ (-8) (by decide) (by decide) })) ?_
  refine Rc (ldI S 0 (w.heap.size) 0 (Od.lit 3) ld_Int) ?_
  refine Rc (cl2 (en Tryz.func48) (Od.lc (Φ := IsI 2 ((-8))) 1 16) (Od.lc (Φ := IsI k2 (((m : Nat) : Int))) 2 17) (fun x0 x1 w' hE d0 d1 => Calls.mono (RKron_f d0 d1 (by decide) HK.out HM.out) fun _ _ h => h.int HV.out)) ?_
  refine Rc (mv (Od.lc 3 18)) ?_
  exact RgAll.nil
 intro v W2 e1 hΦ _
 replace S := S.mono e1
 have v4 : v 4 = .int .i64 vv := hΦ 4 (by decide)
 simp only [layL, Act.put, uAx, u0x, u1x, Nat.reduceAdd]
 rw [v4]
 clear v4 hΦ e1
 refine wpAny_done (by kernel_rfl) ?_ _
 go_wp2_with fail
 exact bodyPost_ret (v := .int .i64 vv) (by simp [results, Tryz.results56, go_sem]) rfl (⟨_, rfl, S.ext, rfl⟩)

set_option maxRecDepth 100000 in
set_option maxHeartbeats 8000000 in
theorem rval_c {k2 m : Nat} {vv : Int} {y : Value} {w : World} (hy : IsI k2 ((m : Nat) : Int) y w) (HK : Hid (k2 ≤ 67108864)) (cn : Nat) (HCP : Hid (0 < cn ∧ cn ≤ 4611686018427387904)) (H1 : Hid ((((cn : Nat) : Int) == -4) = false)) (H2 : Hid ((((cn : Nat) : Int) == 8) = false)) (H3 : Hid ((((cn : Nat) : Int) == -8) = false)) (HV : Hid (kr ((m : Nat) : Int) cn = vv)) : Calls Tryz.prog 56 #[.int .i64 ((cn : Nat) : Int), y] w (Ret w (IsV (.int .i64 vv))) := by
 obtain ⟨s1, a1, n1, c1, rfl, h1⟩ := hy
 have h1 : IsI _ _ _ w := ⟨_, _, _, _, rfl, h1⟩
 obtain ⟨W, hW, S⟩ : ∃ W, W = w.alloc (.cells #[.bool s1, .slice a1 n1 c1] 33) ∧ Sto w W [((w.heap.size, 0), IsI k2 (((m : Nat) : Int)))] := ⟨_, rfl, ((Sto.start w).new1 (w.heap.size) (by simp) s1 a1 n1 c1 33 (IsI k2 (((m : Nat) : Int))) (IsI.gstb _ _) (h1))⟩
 clear h1
 go_enter Tryz.func56, Tryz.ntmps56
 go_upto_region 1 with (fail)
 rw [← hW]
 clear hW
 refine rgs 10 [some 5, some 6, some 7, some 8, some 9, some 10, some 11, some 12, some 13, some 14] [IsV (.int .i64 ((cn : Nat) : Int)), IsV (.bool false), IsV (.bool false), IsV (.int .i64 ((cn : Nat) : Int)), IsV (.bool false), IsV (.bool false), IsV (.bool false), IsV (.int .i64 ((cn : Nat) : Int)), IsV (.bool false), IsV (.bool false)] [] ?_ ?_
 ·refine Rc (mv (Od.lit 0)) ?_
  refine Rc (bn (r := .bool false) (Od.loc 0 5) Od.con (hr := fun w => by have hx9 := H1.out; go_simp)) ?_
  refine Rc (mv (Od.lc 1 6)) ?_
  refine RcG 2 7 false (mv (Od.lit 0)) ?_
  refine RcG 2 7 false (bn (r := .bool false) (Od.loc 3 8) Od.con (hr := fun w => by have hx9 := H2.out; go_simp)) ?_
  refine Rc (pk (Od.loc 2 7) (Od.lc 4 9)) ?_
  refine Rc (mv (Od.lc 5 10)) ?_
  refine RcG 6 11 false (mv (Od.lit 0)) ?_
  refine RcG 6 11 false (bn (r := .bool false) (Od.loc 7 12) Od.con (hr := fun w => by have hx9 := H3.out; go_simp)) ?_
  refine Rc (pk (Od.loc 6 11) (Od.lc 8 13)) ?_
  exact RgAll.nil
 intro v W1 e1 hΦ _
 replace S := S.mono e1
 have v9 : v 9 = .bool false := hΦ 9 (by decide)
 simp only [layL, Act.put, uAx, u0x, u1x, Nat.reduceAdd]
 rw [v9]
 clear v9 hΦ e1
 refine wpList_nil ?_
 go_upto_region 3 with (fail)
 refine rg 5 [some 19, some 20, some 21, some 22, some 4] [IsI k2 (((m : Nat) : Int)), IsV (.int .i64 ((cn : Nat) : Int)), IsI 2 (((cn : Nat) : Int)), IsV (.int .i64 vv), IsV (.int .i64 vv)] [] 0 ?_ ?_
 ·refine Rc (ldI S 0 (w.heap.size) 0 (Od.lit 3) ld_Int) ?_
  refine Rc (mv (Od.lit 0)) ?_
  refine Rc (cl1 (en Tryz.func22) (Od.lc (Φ := IsV (.int .i64 ((cn : Nat) : Int))) 1 20) (fun x0 w' hE d0 => by { obtain rfl : x0 = .int .i64 ((cn : Nat) : Int) := d0; exact ROf_f _ ((cn : Nat) : Int) (by omega) (by have := HCP.out; omega) })) ?_
  refine Rc (cl2 (en Tryz.func48) (Od.lc (Φ := IsI k2 (((m : Nat) : Int))) 0 19) (Od.lc (Φ := IsI 2 (((cn : Nat) : Int))) 2 21) (fun x0 x1 w' hE d0 d1 => Calls.mono (RKron_f d0 d1 HK.out (by decide) HCP.out) fun _ _ h => h.int HV.out)) ?_
  refine Rc (mv (Od.lc 3 22)) ?_
  exact RgAll.nil
 intro v W2 e1 hΦ _
 replace S := S.mono e1
 have v4 : v 4 = .int .i64 vv := hΦ 4 (by decide)
 simp only [layL, Act.put, uAx, u0x, u1x, Nat.reduceAdd]
 rw [v4]
 clear v4 hΦ e1
 refine wpAny_done (by kernel_rfl) ?_ _
 go_wp2_with fail
 exact bodyPost_ret (v := .int .i64 vv) (by simp [results, Tryz.results56, go_sem]) rfl (⟨_, rfl, S.ext, rfl⟩)

theorem rvalue_f {k2 m : Nat} {y : Value} {w : World} (hy : IsI k2 ((m : Nat) : Int) y w) (l1 : k2 ≤ 67108864) (hm : 0 < m ∧ m ≤ 4611686018427387904) (c : Int) (hc : (c = -4 ∨ c = 8 ∨ c = -8) ∨ (0 < c ∧ c ≤ 4194304)) : Calls Tryz.prog 56 #[.int .i64 c, y] w (Ret w (IsV (.int .i64 (chV c m)))) := by
 unfold chV
 by_cases h : c = -4 ∨ c = 8 ∨ c = -8
 ·rw [if_pos h]
  rcases h with rfl | rfl | rfl
  ·exact rval_m4 hy (hid l1) (hid hm) (hid rfl)
  ·exact rval_8 hy (hid l1) (hid hm) (hid rfl)
  ·exact rval_m8 hy (hid l1) (hid hm) (hid rfl)
 ·rw [if_neg h]
  have hc2 : 0 < c ∧ c ≤ 4194304 := by omega
  obtain ⟨cn, rfl⟩ : ∃ cn : Nat, c = ((cn : Nat) : Int) := ⟨c.toNat, by omega⟩
  rw [Int.toNat_natCast]
  exact rval_c hy (hid l1) cn (hid (by omega)) (hid (by rw [beq_eq_false_iff_ne]; omega)) (hid (by rw [beq_eq_false_iff_ne]; omega)) (hid (by rw [beq_eq_false_iff_ne]; omega)) (hid rfl)

set_option maxRecDepth 100000 in
set_option maxHeartbeats 8000000 in
theorem r10ref_a {k1 T r : Nat} {cx cy : Int} {x : Value} {w : World} (hx : IsI k1 (-((T : Nat) : Int)) x w) (HK : Hid (k1 ≤ 67108864)) (HS : Hid ((-((T : Nat) : Int)).sign = -1)) (HR : Hid ((-((T : Nat) : Int)) % 4 = ((r : Nat) : Int))) (HC : Hid (cmpI ((r : Nat) : Int) 1 = cx)) (HC1 : Hid (decide (0 < cx) = false)) (HB : Hid (-4294967296 < (-((T : Nat) : Int)) ∧ (-((T : Nat) : Int)) < 4294967296)) (HD : Hid (cmpI (-((T : Nat) : Int)) (-4194304) = cy)) (HD1 : Hid (decide (cy < 0) = false)) : Calls Tryz.prog 102 #[x] w (Ret w (IsT2 (IsV (.int .i64 (-((T : Nat) : Int)))) (IsV (.int .i64 0)))) := by
 obtain ⟨s1, a1, n1, c1, rfl, h1⟩ := hx
 have h1 : IsI _ _ _ w := ⟨_, _, _, _, rfl, h1⟩
 obtain ⟨W, hW, S⟩ : ∃ W, W = w.alloc (.cells #[.bool s1, .slice a1 n1 c1] 33) ∧ Sto w W [((w.heap.size, 0), IsI k1 ((-((T : Nat) : Int))))] := ⟨_, rfl, ((Sto.start w).new1 (w.heap.size) (by simp) s1 a1 n1 c1 33 (IsI k1 ((-((T : Nat) : Int)))) (IsI.gstb _ _) (h1))⟩
 clear h1
 go_enter Tryz.func102, Tryz.ntmps102
 go_upto_region 1 with (fail)
 rw [← hW]
 clear hW
 refine rgs 3 [some 7, some 8, some 9] [IsI k1 ((-((T : Nat) : Int))), IsV (.int .i64 (-1)), IsV (.bool false)] [] ?_ ?_
 ·refine Rc (ldI S 0 (w.heap.size) 0 (Od.lit 1) ld_Int) ?_
  refine Rc (cl1 (en Tryz.func65) (Od.lc (Φ := IsI k1 ((-((T : Nat) : Int)))) 0 7) (fun x0 w' hE d0 => Calls.mono (RSign_f d0) fun _ _ h => h.int HS.out)) ?_
  refine Rc (bn (r := .bool false) (Od.loc 1 8) Od.con (hr := fun w => by go_simp)) ?_
  exact RgAll.nil
 intro v W1 e1 hΦ _
 replace S := S.mono e1
 have v2 : v 2 = .bool false := hΦ 2 (by decide)
 simp only [layL, Act.put, uAx, u0x, u1x, Nat.reduceAdd]
 rw [v2]
 clear v2 hΦ e1
 refine wpList_nil ?_
 go_upto_region 3 with (fail)
 have hl := hid S.lt; have hw := S.ext.size
 refine rgn 5 [some 10, some 11, some 12, some 4, none] [IsI k1 ((-((T : Nat) : Int))), IsI 2 4, IsI 2 (((r : Nat) : Int)), IsNw W1 1, TT] [3] [none, none, none, none, some (3, [IsI 2 (((r : Nat) : Int))])] [none, none, none, none, some 3] 0 ?_ ?_
 ·refine RcK (ldI S 0 (w.heap.size) 0 (Od.lit 1) ld_Int) ?_
  refine RcK (cl1 (en Tryz.func22) Od.con (fun x0 w' hE d0 => by { obtain rfl : x0 = .int .i64 4 := d0; exact ROf_f _ 4 (by decide) (by decide) })) ?_
  refine RcK (cl2 (en Tryz.func94) (Od.lc (Φ := IsI k1 ((-((T : Nat) : Int)))) 0 10) (Od.lc (Φ := IsI 2 4) 1 11) (fun x0 x1 w' hE d0 d1 => Calls.mono (RMod_f d0 d1 HK.out (by decide) (by decide)) fun _ _ h => h.eqz HR.out)) ?_
  refine RcK (alN al_Int) ?_
  refine RcS 3 (sI st_Int (Od.lc (Φ := IsI 2 (((r : Nat) : Int))) 2 12)) ?_
  exact RgAllN.nil
 intro v W2 e1 hΦ hS _
 replace S := S.mono e1
 obtain ⟨g4, v3, q1, S2⟩ := S.addI (hΦ 3 (by decide) rfl) (hS 4 (by decide) _ _ rfl) hw (IsI.gstb _ _)
 replace S := S2 (ApartO.old hl.out q1); clear S2
 simp only [layL, Act.put, uAx, u0x, u1x, Nat.reduceAdd]
 rw [v3]
 clear hl hw v3 hΦ hS e1
 refine wpAny_done (by kernel_rfl) ?_ _
 go_upto_region 4 with (fail)
 refine rg 4 [some 13, some 14, some 15, some 16] [IsI 2 (((r : Nat) : Int)), IsI 2 1, IsV (.int .i64 cx), IsV (.bool false)] [] 0 ?_ ?_
 ·refine Rc (ldI S 0 (g4) 0 (Od.lit 4) ld_Int) ?_
  refine Rc (cl1 (en Tryz.func22) Od.con (fun x0 w' hE d0 => by { obtain rfl : x0 = .int .i64 1 := d0; exact ROf_f _ 1 (by decide) (by decide) })) ?_
  refine Rc (cl2 (en Tryz.func31) (Od.lc (Φ := IsI 2 (((r : Nat) : Int))) 0 13) (Od.lc (Φ := IsI 2 1) 1 14) (fun x0 x1 w' hE d0 d1 => Calls.mono (RCmp_f d0 d1 (by decide) (by decide)) fun _ _ h => h.int HC.out)) ?_
  refine Rc (bn (r := .bool false) (Od.loc 2 15) Od.con (hr := fun w => by have hx9 := HC1.out; go_simp)) ?_
  exact RgAll.nil
 intro v W3 e1 hΦ _
 replace S := S.mono e1
 have v3 : v 3 = .bool false := hΦ 3 (by decide)
 simp only [layL, Act.put, uAx, u0x, u1x, Nat.reduceAdd]
 rw [v3]
 clear v3 hΦ e1
 refine wpAny_done (by kernel_rfl) ?_ _
 go_upto_region 6 with (fail)
 refine rgs 7 [some 18, some 19, some 17, some 20, some 21, some 5, some 6] [IsI k1 ((-((T : Nat) : Int))), IsT2 (IsV (.int .i64 (-((T : Nat) : Int)))) (IsV (.bool true)), IsT2 (IsV (.int .i64 (-((T : Nat) : Int)))) (IsV (.bool true)), IsV (.int .i64 (-((T : Nat) : Int))), IsV (.bool true), IsV (.int .i64 (-((T : Nat) : Int))), IsV (.bool true)] [] ?_ ?_
 ·refine Rc (ldI S 1 (w.heap.size) 0 (Od.lit 1) ld_Int) ?_
  refine Rc (cl1 (en Tryz.func47) (Od.lc (Φ := IsI k1 ((-((T : Nat) : Int)))) 0 18) (fun x0 w' hE d0 => RLow_i d0 HB.out.1 HB.out.2)) ?_
  refine Rc (mv (Od.lc 1 19)) ?_
  refine Rc (ex (Od.loc 2 17) t20) ?_
  refine Rc (ex (Od.loc 2 17) t21) ?_
  refine Rc (mv (Od.lc 3 20)) ?_
  refine Rc (mv (Od.lc 4 21)) ?_
  exact RgAll.nil
 intro v W4 e1 hΦ _
 replace S := S.mono e1
 have v5 : v 5 = .int .i64 (-((T : Nat) : Int)) := hΦ 5 (by decide)
 simp only [layL, Act.put, uAx, u0x, u1x, Nat.reduceAdd]
 rw [v5]
 clear v5 hΦ e1
 refine wpList_nil ?_
 go_upto_region 7 with (fail)
 refine rg 4 [some 22, some 23, some 24, some 25] [IsI k1 ((-((T : Nat) : Int))), IsI 2 ((-4194304)), IsV (.int .i64 cy), IsV (.bool false)] [] 0 ?_ ?_
 ·refine Rc (ldI S 1 (w.heap.size) 0 (Od.lit 1) ld_Int) ?_
  refine Rc (cl1 (en Tryz.func22) Od.con (fun x0 w' hE d0 => by { obtain rfl : x0 = .int .i64 (-4194304) := d0; exact ROf_f _ (-4194304) (by decide) (by decide) })) ?_
  refine Rc (cl2 (en Tryz.func31) (Od.lc (Φ := IsI k1 ((-((T : Nat) : Int)))) 0 22) (Od.lc (Φ := IsI 2 ((-4194304))) 1 23) (fun x0 x1 w' hE d0 d1 => Calls.mono (RCmp_f d0 d1 (by have := HK.out; omega) (by decide)) fun _ _ h => h.int HD.out)) ?_
  refine Rc (bn (r := .bool false) (Od.loc 2 24) Od.con (hr := fun w => by have hx9 := HD1.out; go_simp)) ?_
  exact RgAll.nil
 intro v W5 e1 hΦ _
 replace S := S.mono e1
 have v3 : v 3 = .bool false := hΦ 3 (by decide)
 simp only [layL, Act.put, uAx, u0x, u1x, Nat.reduceAdd]
 rw [v3]
 clear v3 hΦ e1
 refine wpAny_done (by kernel_rfl) ?_ _
 go_upto_region 9 with (fail)
 refine rgs 3 [some 26, some 2, some 3] [IsV (.int .i64 (-((T : Nat) : Int))), IsV (.int .i64 (-((T : Nat) : Int))), IsV (.int .i64 0)] [] ?_ ?_
 ·refine Rc (mv (Od.lit 5)) ?_
  refine Rc (mv (Od.lc 0 26)) ?_
  refine Rc (mv Od.con) ?_
  exact RgAll.nil
 intro v W6 e1 hΦ _
 replace S := S.mono e1
 have v1 : v 1 = .int .i64 (-((T : Nat) : Int)) := hΦ 1 (by decide)
 have v2 : v 2 = .int .i64 0 := hΦ 2 (by decide)
 simp only [layL, Act.put, uAx, u0x, u1x, Nat.reduceAdd]
 rw [v1, v2]
 clear v1 v2 hΦ e1
 refine wpList_nil ?_
 go_wp2_with fail
 exact bodyPost_ret (v := .tuple #[.int .i64 (-((T : Nat) : Int)), .int .i64 0]) (by simp [results, Tryz.results102, go_sem]) rfl (⟨_, rfl, S.ext, _, _, rfl, rfl, rfl⟩)

theorem r10ref_f {k1 T : Nat} {x : Value} {w : World} (hx : IsI k1 (-((T : Nat) : Int)) x w) (l1 : k1 ≤ 67108864) (hT : 1 ≤ T ∧ T ≤ 4194304 ∧ (T % 4 = 0 ∨ T % 4 = 3)) : Calls Tryz.prog 102 #[x] w (Ret w (IsT2 (IsV (.int .i64 (-((T : Nat) : Int)))) (IsV (.int .i64 0)))) := by
 obtain ⟨r, hr, hr1⟩ : ∃ r : Nat, (-((T : Nat) : Int)) % 4 = ((r : Nat) : Int) ∧ r ≤ 1 := by
  rcases hT.2.2 with h | h
  ·exact ⟨0, by omega, by decide⟩
  ·exact ⟨1, by omega, by decide⟩
 refine r10ref_a hx (hid l1) (hid (Int.sign_eq_neg_one_of_neg (by omega))) (hid hr) (hid rfl) (hid ?_) (hid (by omega)) (hid rfl) (hid ?_)
 ·unfold cmpI; rw [decide_eq_false_iff_not]; split <;> (try split) <;> omega
 ·unfold cmpI; rw [decide_eq_false_iff_not]; split <;> (try split) <;> omega

end Go.Proofs.YtknffgdbdadpcaaGreatDoor
