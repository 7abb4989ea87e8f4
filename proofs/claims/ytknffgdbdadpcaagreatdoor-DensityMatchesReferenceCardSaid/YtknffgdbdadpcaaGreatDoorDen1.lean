/-
 Packages count and density: number, size, refused, local. (Printed by wip/gen/den1.py.)
-/
import Derived.Test.YtknffgdbdadpcaaGreatDoorMod3
import Derived.Test.YtknffgdbdadpcaaGreatDoorPw
namespace Go.Proofs.YtknffgdbdadpcaaGreatDoor
open Go Go.RowKit

set_option maxRecDepth 100000 in
set_option maxHeartbeats 4000000 in
theorem number_f (w : World) (z : Int) (h1 : -9223372036854775808 ≤ z) (h2 : z ≤ 9223372036854775807) : Calls Tryz.prog 75 #[.int .i64 z] w (Ret w (IsI 2 z)) := by
 have HZ := hid (And.intro h1 h2)
 clear h1 h2
 obtain ⟨W, hW, S⟩ : ∃ W, W = w.alloc (.cells #[.bool false, .slice none 0 0] 33) ∧ Sto w W [((w.heap.size, 0), IsI 0 0)] := ⟨_, rfl, ((Sto.start w).new1 (w.heap.size) (by simp) false none 0 0 33 (IsI 0 0) (IsI.gstb _ _) (IsI.nil _ _))⟩
 go_enter Tryz.func75, Tryz.ntmps75
 go_upto_region 1 with (fail)
 rw [← hW]
 clear hW
 refine rgs 2 [some 3, some 4] [IsV (.int .i64 z), IsI 2 z] [] ?_ ?_
 ·refine Rc (mv (Od.lit 0)) ?_
  refine Rc (cl1 (en Tryz.func41) (Od.lc (Φ := IsV (.int .i64 z)) 0 3) (fun x0 w' hE d0 => by { obtain rfl : x0 = .int .i64 z := d0; exact Of_f _ z HZ.out.1 HZ.out.2 })) ?_
  exact RgAll.nil
 intro v W1 e1 hΦ _
 replace S := S.mono e1
 have h4 := hΦ 1 (by decide)
 simp only [layL, Act.put, uAx, u0x, u1x, Nat.reduceAdd]
 clear hΦ e1
 try simp only [List.drop_succ_cons, List.drop_zero]
 (with_reducible refine stL ?_ (by rfl)); intro KK hKK; refine stI S 0 (w.heap.size) 0 h4 st_Int (fun W2 S2 G2 => hKK _ _ ?_) rfl
 replace S := S2; clear S2 G2 hKK KK h4
 simp only [u0x] at S
 refine wpList_nil ?_
 go_wp2_with fail
 obtain ⟨s90x, a90x, n90x, c90x, b90x, h90x⟩ := S.at 0 (w.heap.size) 0 (IsI 2 z) rfl; have L90xa : World.cell? W2 ⟨w.heap.size, 0, none⟩ = some (.bool s90x) := b90x.c0; have L90xb : World.cell? W2 ⟨w.heap.size, 1, none⟩ = some (.slice a90x n90x c90x) := b90x.c1
 exact bodyPost_ret (v := .agg #[.bool s90x, .slice a90x n90x c90x]) (by simp [results, Tryz.results75, go_sem, L90xa, L90xb]) rfl (⟨_, rfl, S.ext, h90x⟩)

set_option maxRecDepth 100000 in
set_option maxHeartbeats 4000000 in
theorem drefused_f {k1 n : Nat} {x : Value} {w : World} (hx : IsI k1 (-((n : Nat) : Int)) x w) (l1 : k1 ≤ 16777216) (hn : 1 ≤ n ∧ n ≤ 4194304 ∧ (n % 4 = 0 ∨ n % 4 = 3)) : Calls Tryz.prog 61 #[x] w (Ret w (IsV (.int .i64 0))) := by
 have HK := hid l1
 obtain ⟨q, hq⟩ : ∃ x, (-((n : Nat) : Int)) / 4 = x := ⟨_, rfl⟩
 obtain ⟨r, hr⟩ : ∃ x, (-((n : Nat) : Int)) % 4 = x := ⟨_, rfl⟩
 have HQR := hid (And.intro hq hr)
 have hr1 : r ≤ 1 := by omega
 have HSG := hid (show (-((n : Nat) : Int)).sign = -1 from Int.sign_eq_neg_one_of_neg (by omega))
 obtain ⟨cq, hcq⟩ : ∃ x, cmpI r 1 = x := ⟨_, rfl⟩
 have HC1 := hid hcq
 have HC1B := hid (show decide (0 < cq) = false by
  rw [← hcq, decide_eq_false_iff_not]; unfold cmpI
  split
  ·decide
  ·rw [if_neg (by omega)]; decide)
 obtain ⟨cr, hcr⟩ : ∃ x, cmpI (-((n : Nat) : Int)) (-4194304) = x := ⟨_, rfl⟩
 have HC2 := hid hcr
 have HC2B := hid (show decide (cr < 0) = false by
  rw [← hcr, decide_eq_false_iff_not]; unfold cmpI
  rw [if_neg (by omega)]
  split <;> decide)
 clear l1 hn hq hr hr1 hcq hcr
 obtain ⟨s1, a1, n1, c1, rfl, h1⟩ := hx
 have h1 : IsI _ _ _ w := ⟨_, _, _, _, rfl, h1⟩
 obtain ⟨W, hW, S⟩ : ∃ W, W = w.alloc (.cells #[.bool s1, .slice a1 n1 c1] 33) ∧ Sto w W [((w.heap.size, 0), IsI k1 (-((n : Nat) : Int)))] := ⟨_, rfl, ((Sto.start w).new1 (w.heap.size) (by simp) s1 a1 n1 c1 33 (IsI k1 (-((n : Nat) : Int))) (IsI.gstb _ _) (h1))⟩
 clear h1
 go_enter Tryz.func61, Tryz.ntmps61
 go_upto_region 1 with (fail)
 rw [← hW]
 clear hW
 have hl := hid S.lt; have hw := S.ext.size
 refine rgn 12 [some 7, some 8, some 9, some 6, some 10, some 11, some 12, some 3, some 4, none, none, some 5] [IsI k1 (-((n : Nat) : Int)), IsI 2 4, IsT3 (IsI k1 q) (IsI 2 r) (IsV (.int .i64 0)), IsT3 (IsI k1 q) (IsI 2 r) (IsV (.int .i64 0)), IsI k1 q, IsI 2 r, IsV (.int .i64 0), IsNw W 1, IsNw W 1, TT, TT, IsV (.int .i64 0)] [7, 8] [none, none, none, none, none, none, none, none, none, some (7, [IsI k1 q]), some (8, [IsI 2 r]), none] [none, none, none, none, none, none, none, none, none, some 7, some 8, none] 0 ?_ ?_
 ·refine RcK (ldI S 0 (w.heap.size) 0 (Od.lit 1) ld_Int) ?_
  refine RcK (cl1 (en Tryz.func41) Od.con (fun x0 w' hE d0 => by { obtain rfl : x0 = .int .i64 4 := d0; exact Of_f _ 4 (by decide) (by decide) })) ?_
  refine RcK (cl2 (en Tryz.func111) (Od.lc (Φ := IsI k1 (-((n : Nat) : Int))) 0 7) (Od.lc (Φ := IsI 2 4) 1 8) (fun x0 x1 w' hE d0 d1 => (by have hh := DivMod_f d0 d1 (by have := HK.out; omega) (by decide) (by decide); rw [HQR.out.1, HQR.out.2] at hh; exact hh))) ?_
  refine RcK (mv (Od.lc 2 9)) ?_
  refine RcK (ex (Od.loc 3 6) t30) ?_
  refine RcK (ex (Od.loc 3 6) t31) ?_
  refine RcK (ex (Od.loc 3 6) t32) ?_
  refine RcK (alN al_Int) ?_
  refine RcK (alN al_Int) ?_
  refine RcS 7 (sI st_Int (Od.lc (Φ := IsI k1 q) 4 10)) ?_
  refine RcS 8 (sI st_Int (Od.lc (Φ := IsI 2 r) 5 11)) ?_
  refine RcK (mv (Od.lc 6 12)) ?_
  exact RgAllN.nil
 intro v W1 e1 hΦ hS hne
 replace S := S.mono e1
 obtain ⟨g3, v7, q1, S2⟩ := S.addI (hΦ 7 (by decide) rfl) (hS 9 (by decide) _ _ rfl) hw (IsI.gstb _ _)
 replace S := S2 (ApartO.old hl.out q1); clear S2
 obtain ⟨g4, v8, q2, S2⟩ := S.addI (hΦ 8 (by decide) rfl) (hS 10 (by decide) _ _ rfl) hw (IsI.gstb _ _)
 replace S := S2 (ApartO.cons (fun h => hne 7 8 (by decide) (by decide) (by decide) (by decide) (by decide) rfl rfl (by rw [v7, v8, h])) (ApartO.old hl.out q2)); clear S2
 simp only [layL, Act.put, uAx, u0x, u1x, Nat.reduceAdd]
 rw [v7, v8]
 clear hl hw hne v7 v8 hΦ hS e1
 refine wpAny_done (by kernel_rfl) ?_ _
 go_upto_region 2 with (fail)
 refine rg 10 [some 14, some 15, some 16, some 17, some 18, some 19, some 20, some 21, some 22, some 13] [IsI k1 (-((n : Nat) : Int)), IsV (.int .i64 (-1)), IsV (.bool false), IsV (.bool false), IsI 2 r, IsI 2 1, IsV (.int .i64 cq), IsV (.bool false), IsV (.bool false), IsV (.bool false)] [] 0 ?_ ?_
 ·refine Rc (ldI S 2 (w.heap.size) 0 (Od.lit 1) ld_Int) ?_
  refine Rc (cl1 (en Tryz.func84) (Od.lc (Φ := IsI k1 (-((n : Nat) : Int))) 0 14) (fun x0 w' hE d0 => Calls.mono (Sign_f d0) fun _ _ h => h.int (HSG.out))) ?_
  refine Rc (bn (r := .bool false) (Od.loc 1 15) Od.con (hr := fun w => by go_simp)) ?_
  refine Rc (mv (Od.lc 2 16)) ?_
  refine RcG 3 17 false (ldI S 0 (g4) 0 (Od.lit 4) ld_Int) ?_
  refine RcG 3 17 false (cl1 (en Tryz.func41) Od.con (fun x0 w' hE d0 => by { obtain rfl : x0 = .int .i64 1 := d0; exact Of_f _ 1 (by decide) (by decide) })) ?_
  refine RcG 3 17 false (cl2 (en Tryz.func52) (Od.lc (Φ := IsI 2 r) 4 18) (Od.lc (Φ := IsI 2 1) 5 19) (fun x0 x1 w' hE d0 d1 => Calls.mono (Cmp_f d0 d1 (by decide) (by decide)) fun _ _ h => h.int HC1.out)) ?_
  refine RcG 3 17 false (bn (r := .bool false) (Od.loc 6 20) Od.con (hr := fun w => by have hx9 := HC1B.out; go_simp)) ?_
  refine Rc (pk (Od.loc 3 17) (Od.lc 7 21)) ?_
  refine Rc (mv (Od.lc 8 22)) ?_
  exact RgAll.nil
 intro v W2 e1 hΦ _
 replace S := S.mono e1
 have v9 : v 9 = .bool false := hΦ 9 (by decide)
 simp only [layL, Act.put, uAx, u0x, u1x, Nat.reduceAdd]
 rw [v9]
 clear v9 hΦ e1
 refine wpAny_done (by kernel_rfl) ?_ _
 go_upto_region 4 with (fail)
 refine rg 5 [some 24, some 25, some 26, some 27, some 23] [IsI k1 (-((n : Nat) : Int)), IsI 2 ((-4194304)), IsV (.int .i64 cr), IsV (.bool false), IsV (.bool false)] [] 0 ?_ ?_
 ·refine Rc (ldI S 2 (w.heap.size) 0 (Od.lit 1) ld_Int) ?_
  refine Rc (cl1 (en Tryz.func41) Od.con (fun x0 w' hE d0 => by { obtain rfl : x0 = .int .i64 (-4194304) := d0; exact Of_f _ ((-4194304)) (by decide) (by decide) })) ?_
  refine Rc (cl2 (en Tryz.func52) (Od.lc (Φ := IsI k1 (-((n : Nat) : Int))) 0 24) (Od.lc (Φ := IsI 2 ((-4194304))) 1 25) (fun x0 x1 w' hE d0 d1 => Calls.mono (Cmp_f d0 d1 (by have := HK.out; omega) (by decide)) fun _ _ h => h.int HC2.out)) ?_
  refine Rc (bn (r := .bool false) (Od.loc 2 26) Od.con (hr := fun w => by have hx9 := HC2B.out; go_simp)) ?_
  refine Rc (mv (Od.lc 3 27)) ?_
  exact RgAll.nil
 intro v W3 e1 hΦ _
 replace S := S.mono e1
 have v4 : v 4 = .bool false := hΦ 4 (by decide)
 simp only [layL, Act.put, uAx, u0x, u1x, Nat.reduceAdd]
 rw [v4]
 clear v4 hΦ e1
 refine wpAny_done (by kernel_rfl) ?_ _
 go_upto_region 6 with (fail)
 refine rgs 1 [some 2] [IsV (.int .i64 0)] [] ?_ ?_
 ·refine Rc (mv Od.con) ?_
  exact RgAll.nil
 intro v W4 e1 hΦ _
 replace S := S.mono e1
 have v0 : v 0 = .int .i64 0 := hΦ 0 (by decide)
 simp only [layL, Act.put, uAx, u0x, u1x]
 rw [v0]
 clear v0 hΦ e1
 refine wpList_nil ?_
 go_wp2_with fail
 exact bodyPost_ret (v := .int .i64 0) (by simp [results, Tryz.results61, go_sem]) rfl (⟨_, rfl, S.ext, rfl⟩)

set_option maxRecDepth 100000 in
set_option maxHeartbeats 4000000 in
theorem csize_f {k1 n : Nat} {x : Value} {w : World} (hx : IsI k1 (-((n : Nat) : Int)) x w) (l1 : k1 ≤ 16777216) (hn : 1 ≤ n ∧ n ≤ 4194304 ∧ (n % 4 = 0 ∨ n % 4 = 3)) : Calls Tryz.prog 74 #[x] w (Ret w (IsT2 (IsV (.int .i64 ((n : Nat) : Int))) (IsV (.int .i64 0)))) := by
 have HK := hid l1
 obtain ⟨q, hq⟩ : ∃ x, (-((n : Nat) : Int)) / 4 = x := ⟨_, rfl⟩
 obtain ⟨r, hr⟩ : ∃ x, (-((n : Nat) : Int)) % 4 = x := ⟨_, rfl⟩
 have HQR := hid (And.intro hq hr)
 have hr1 : r ≤ 1 := by omega
 have HSG := hid (show (-((n : Nat) : Int)).sign = -1 from Int.sign_eq_neg_one_of_neg (by omega))
 obtain ⟨cq, hcq⟩ : ∃ x, cmpI r 1 = x := ⟨_, rfl⟩
 have HC1 := hid hcq
 have HC1B := hid (show decide (0 < cq) = false by
  rw [← hcq, decide_eq_false_iff_not]; unfold cmpI
  split
  ·decide
  ·rw [if_neg (by omega)]; decide)
 have HNB := hid hn.2.1
 clear l1 hn hq hr hr1 hcq
 obtain ⟨s1, a1, n1, c1, rfl, h1⟩ := hx
 have h1 : IsI _ _ _ w := ⟨_, _, _, _, rfl, h1⟩
 obtain ⟨W, hW, S⟩ : ∃ W, W = w.alloc (.cells #[.bool s1, .slice a1 n1 c1] 33) ∧ Sto w W [((w.heap.size, 0), IsI k1 (-((n : Nat) : Int)))] := ⟨_, rfl, ((Sto.start w).new1 (w.heap.size) (by simp) s1 a1 n1 c1 33 (IsI k1 (-((n : Nat) : Int))) (IsI.gstb _ _) (h1))⟩
 clear h1
 go_enter Tryz.func74, Tryz.ntmps74
 go_upto_region 1 with (fail)
 rw [← hW]
 clear hW
 have hl := hid S.lt; have hw := S.ext.size
 refine rgn 12 [some 10, some 11, some 12, some 9, some 13, some 14, some 15, some 4, some 5, none, none, some 6] [IsI k1 (-((n : Nat) : Int)), IsI 2 4, IsT3 (IsI k1 q) (IsI 2 r) (IsV (.int .i64 0)), IsT3 (IsI k1 q) (IsI 2 r) (IsV (.int .i64 0)), IsI k1 q, IsI 2 r, IsV (.int .i64 0), IsNw W 1, IsNw W 1, TT, TT, IsV (.int .i64 0)] [7, 8] [none, none, none, none, none, none, none, none, none, some (7, [IsI k1 q]), some (8, [IsI 2 r]), none] [none, none, none, none, none, none, none, none, none, some 7, some 8, none] 0 ?_ ?_
 ·refine RcK (ldI S 0 (w.heap.size) 0 (Od.lit 1) ld_Int) ?_
  refine RcK (cl1 (en Tryz.func75) Od.con (fun x0 w' hE d0 => by { obtain rfl : x0 = .int .i64 4 := d0; exact number_f _ 4 (by decide) (by decide) })) ?_
  refine RcK (cl2 (en Tryz.func111) (Od.lc (Φ := IsI k1 (-((n : Nat) : Int))) 0 10) (Od.lc (Φ := IsI 2 4) 1 11) (fun x0 x1 w' hE d0 d1 => (by have hh := DivMod_f d0 d1 (by have := HK.out; omega) (by decide) (by decide); rw [HQR.out.1, HQR.out.2] at hh; exact hh))) ?_
  refine RcK (mv (Od.lc 2 12)) ?_
  refine RcK (ex (Od.loc 3 9) t30) ?_
  refine RcK (ex (Od.loc 3 9) t31) ?_
  refine RcK (ex (Od.loc 3 9) t32) ?_
  refine RcK (alN al_Int) ?_
  refine RcK (alN al_Int) ?_
  refine RcS 7 (sI st_Int (Od.lc (Φ := IsI k1 q) 4 13)) ?_
  refine RcS 8 (sI st_Int (Od.lc (Φ := IsI 2 r) 5 14)) ?_
  refine RcK (mv (Od.lc 6 15)) ?_
  exact RgAllN.nil
 intro v W1 e1 hΦ hS hne
 replace S := S.mono e1
 obtain ⟨g4, v7, q1, S2⟩ := S.addI (hΦ 7 (by decide) rfl) (hS 9 (by decide) _ _ rfl) hw (IsI.gstb _ _)
 replace S := S2 (ApartO.old hl.out q1); clear S2
 obtain ⟨g5, v8, q2, S2⟩ := S.addI (hΦ 8 (by decide) rfl) (hS 10 (by decide) _ _ rfl) hw (IsI.gstb _ _)
 replace S := S2 (ApartO.cons (fun h => hne 7 8 (by decide) (by decide) (by decide) (by decide) (by decide) rfl rfl (by rw [v7, v8, h])) (ApartO.old hl.out q2)); clear S2
 simp only [layL, Act.put, uAx, u0x, u1x, Nat.reduceAdd]
 rw [v7, v8]
 clear hl hw hne v7 v8 hΦ hS e1
 refine wpAny_done (by kernel_rfl) ?_ _
 go_upto_region 2 with (fail)
 refine rg 9 [some 16, some 17, some 18, some 19, some 20, some 21, some 22, some 23, some 24] [IsI k1 (-((n : Nat) : Int)), IsV (.int .i64 (-1)), IsV (.bool false), IsV (.bool false), IsI 2 r, IsI 2 1, IsV (.int .i64 cq), IsV (.bool false), IsV (.bool false)] [] 0 ?_ ?_
 ·refine Rc (ldI S 2 (w.heap.size) 0 (Od.lit 1) ld_Int) ?_
  refine Rc (cl1 (en Tryz.func84) (Od.lc (Φ := IsI k1 (-((n : Nat) : Int))) 0 16) (fun x0 w' hE d0 => Calls.mono (Sign_f d0) fun _ _ h => h.int (HSG.out))) ?_
  refine Rc (bn (r := .bool false) (Od.loc 1 17) Od.con (hr := fun w => by go_simp)) ?_
  refine Rc (mv (Od.lc 2 18)) ?_
  refine RcG 3 19 false (ldI S 0 (g5) 0 (Od.lit 5) ld_Int) ?_
  refine RcG 3 19 false (cl1 (en Tryz.func75) Od.con (fun x0 w' hE d0 => by { obtain rfl : x0 = .int .i64 1 := d0; exact number_f _ 1 (by decide) (by decide) })) ?_
  refine RcG 3 19 false (cl2 (en Tryz.func52) (Od.lc (Φ := IsI 2 r) 4 20) (Od.lc (Φ := IsI 2 1) 5 21) (fun x0 x1 w' hE d0 d1 => Calls.mono (Cmp_f d0 d1 (by decide) (by decide)) fun _ _ h => h.int HC1.out)) ?_
  refine RcG 3 19 false (bn (r := .bool false) (Od.loc 6 22) Od.con (hr := fun w => by have hx9 := HC1B.out; go_simp)) ?_
  refine Rc (pk (Od.loc 3 19) (Od.lc 7 23)) ?_
  exact RgAll.nil
 intro v W2 e1 hΦ _
 replace S := S.mono e1
 have v8 : v 8 = .bool false := hΦ 8 (by decide)
 simp only [layL, Act.put, uAx, u0x, u1x, Nat.reduceAdd]
 rw [v8]
 clear v8 hΦ e1
 refine wpAny_done (by kernel_rfl) ?_ _
 go_upto_region 4 with (fail)
 refine rgs 8 [some 26, some 27, some 28, some 25, some 29, some 30, some 7, some 8] [IsI k1 (-((n : Nat) : Int)), IsI k1 (((n : Nat) : Int)), IsT2 (IsV (.int .i64 ((n : Nat) : Int))) (IsV (.bool true)), IsT2 (IsV (.int .i64 ((n : Nat) : Int))) (IsV (.bool true)), IsV (.int .i64 ((n : Nat) : Int)), IsV (.bool true), IsV (.int .i64 ((n : Nat) : Int)), IsV (.bool true)] [] ?_ ?_
 ·refine Rc (ldI S 2 (w.heap.size) 0 (Od.lit 1) ld_Int) ?_
  refine Rc (cl1 (en Tryz.func114) (Od.lc (Φ := IsI k1 (-((n : Nat) : Int))) 0 26) (fun x0 w' hE d0 => Calls.mono (Neg_f d0) fun _ _ h => h.eqz (Int.neg_neg _))) ?_
  refine Rc (cl1 (en Tryz.func42) (Od.lc (Φ := IsI k1 (((n : Nat) : Int))) 1 27) (fun x0 w' hE d0 => Low_t d0 (by have := HNB.out; omega) (by have := HNB.out; omega))) ?_
  refine Rc (mv (Od.lc 2 28)) ?_
  refine Rc (ex (Od.loc 3 25) t20) ?_
  refine Rc (ex (Od.loc 3 25) t21) ?_
  refine Rc (mv (Od.lc 4 29)) ?_
  refine Rc (mv (Od.lc 5 30)) ?_
  exact RgAll.nil
 intro v W3 e1 hΦ _
 replace S := S.mono e1
 have v6 : v 6 = .int .i64 ((n : Nat) : Int) := hΦ 6 (by decide)
 have v7 : v 7 = .bool true := hΦ 7 (by decide)
 simp only [layL, Act.put, uAx, u0x, u1x, Nat.reduceAdd]
 rw [v6, v7]
 clear v6 v7 hΦ e1
 refine wpList_nil ?_
 go_upto_region 5 with (fail)
 refine rgs 6 [some 31, some 32, some 33, some 34, some 35, some 36] [IsV (.bool true), IsV (.bool false), IsV (.bool false), IsV (.int .i64 ((n : Nat) : Int)), IsV (.bool false), IsV (.bool false)] [] ?_ ?_
 ·refine Rc (mv (Od.lit 8)) ?_
  refine Rc (nt (Od.loc 0 31)) ?_
  refine Rc (mv (Od.lc 1 32)) ?_
  refine RcG 2 33 false (mv (Od.lit 7)) ?_
  refine RcG 2 33 false (bn (r := .bool false) (Od.loc 3 34) Od.con (hr := fun w => by have hx9 := HNB.out; have hx8 : ((n : Nat) : Int) ≤ 4194304 := (by omega); go_simp)) ?_
  refine Rc (pk (Od.loc 2 33) (Od.lc 4 35)) ?_
  exact RgAll.nil
 intro v W4 e1 hΦ _
 replace S := S.mono e1
 have v5 : v 5 = .bool false := hΦ 5 (by decide)
 simp only [layL, Act.put, uAx, u0x, u1x, Nat.reduceAdd]
 rw [v5]
 clear v5 hΦ e1
 refine wpList_nil ?_
 go_upto_region 7 with (fail)
 refine rgs 3 [some 37, some 2, some 3] [IsV (.int .i64 ((n : Nat) : Int)), IsV (.int .i64 ((n : Nat) : Int)), IsV (.int .i64 0)] [] ?_ ?_
 ·refine Rc (mv (Od.lit 7)) ?_
  refine Rc (mv (Od.lc 0 37)) ?_
  refine Rc (mv Od.con) ?_
  exact RgAll.nil
 intro v W5 e1 hΦ _
 replace S := S.mono e1
 have v1 : v 1 = .int .i64 ((n : Nat) : Int) := hΦ 1 (by decide)
 have v2 : v 2 = .int .i64 0 := hΦ 2 (by decide)
 simp only [layL, Act.put, uAx, u0x, u1x, Nat.reduceAdd]
 rw [v1, v2]
 clear v1 v2 hΦ e1
 refine wpList_nil ?_
 go_wp2_with fail
 exact bodyPost_ret (v := .tuple #[.int .i64 ((n : Nat) : Int), .int .i64 0]) (by simp [results, Tryz.results74, go_sem]) rfl (⟨_, rfl, S.ext, ⟨_, _, rfl, rfl, rfl⟩⟩)

set_option maxRecDepth 100000 in
set_option maxHeartbeats 4000000 in
theorem dlocal_0 {k1 p k : Nat} {z ch : Int} {x : Value} {w : World} (hx : IsI k1 z x w) (HK : Hid (k1 ≤ 33554432)) (HSG : Hid (Sg w)) (HP : Hid (-9223372036854775808 ≤ ((p : Nat) : Int) ∧ ((p : Nat) : Int) ≤ 9223372036854775807 ∧ 0 < p ∧ p ≤ 4611686018427387904)) (HCH : Hid (kr z p = ch)) (HZ : Hid ((ch == 0) = true)) : Calls Tryz.prog 44 #[x, .int .i64 ((p : Nat) : Int), .int .i64 ((k : Nat) : Int)] w (Ret w (IsV (.int .i64 (1)))) := by
 obtain ⟨s1, a1, n1, c1, rfl, h1⟩ := hx
 have h1 : IsI _ _ _ w := ⟨_, _, _, _, rfl, h1⟩
 obtain ⟨W, hW, S⟩ : ∃ W, W = w.alloc (.cells #[.bool s1, .slice a1 n1 c1] 33) ∧ Sto w W [((w.heap.size, 0), IsI k1 z)] := ⟨_, rfl, ((Sto.start w).new1 (w.heap.size) (by simp) s1 a1 n1 c1 33 (IsI k1 z) (IsI.gstb _ _) (h1))⟩
 clear h1
 go_enter Tryz.func44, Tryz.ntmps44
 go_upto_region 1 with (fail)
 rw [← hW]
 clear hW
 refine rg 4 [some 7, some 8, some 9, some 10] [IsI k1 z, IsV (.int .i64 ((p : Nat) : Int)), IsI 2 (((p : Nat) : Int)), IsV (.int .i64 ch)] [] 0 ?_ ?_
 ·refine Rc (ldI S 0 (w.heap.size) 0 (Od.lit 3) ld_Int) ?_
  refine Rc (mv (Od.lit 1)) ?_
  refine Rc (cl1 (en Tryz.func41) (Od.lc (Φ := IsV (.int .i64 ((p : Nat) : Int))) 1 8) (fun x0 w' hE d0 => by { obtain rfl : x0 = .int .i64 ((p : Nat) : Int) := d0; exact Of_f _ ((p : Nat) : Int) HP.out.1 HP.out.2.1 })) ?_
  refine Rc (cl2 (en Tryz.func62) (Od.lc (Φ := IsI k1 z) 0 7) (Od.lc (Φ := IsI 2 (((p : Nat) : Int))) 2 9) (fun x0 x1 w' hE d0 d1 => (by have hh := Kron_f d0 d1 HK.out (by decide) (HSG.out.ext (S.ext.trans hE)) HP.out.2.2; rw [HCH.out] at hh; exact hh))) ?_
  exact RgAll.nil
 intro v W1 e1 hΦ _
 replace S := S.mono e1
 have v3 : v 3 = .int .i64 ch := hΦ 3 (by decide)
 simp only [layL, Act.put, uAx, u0x, u1x, Nat.reduceAdd]
 rw [v3]
 clear v3 hΦ e1
 refine wpAny_done (by kernel_rfl) ?_ _
 go_upto_region 2 with (fail)
 refine rgs 2 [some 12, some 11] [IsV (.bool true), IsV (.bool true)] [] ?_ ?_
 ·refine Rc (bn (r := .bool true) (Od.lit (x := .int .i64 ch) 10) Od.con (hr := fun w => by have hx9 := HZ.out; go_simp)) ?_
  refine Rc (mv (Od.lc 0 12)) ?_
  exact RgAll.nil
 intro v W2 e1 hΦ _
 replace S := S.mono e1
 have v1 : v 1 = .bool true := hΦ 1 (by decide)
 simp only [layL, Act.put, uAx, u0x, u1x, Nat.reduceAdd]
 rw [v1]
 clear v1 hΦ e1
 refine wpList_nil ?_
 go_upto_region 3 with (fail)
 refine rgs 1 [some 6] [IsV (.int .i64 1)] [] ?_ ?_
 ·refine Rc (mv Od.con) ?_
  exact RgAll.nil
 intro v W3 e1 hΦ _
 replace S := S.mono e1
 have v0 : v 0 = .int .i64 1 := hΦ 0 (by decide)
 simp only [layL, Act.put, uAx, u0x, u1x]
 rw [v0]
 clear v0 hΦ e1
 refine wpList_nil ?_
 go_wp2_with fail
 exact bodyPost_ret (v := .int .i64 1) (by simp [results, Tryz.results44, go_sem]) rfl (⟨_, rfl, S.ext, rfl⟩)

set_option maxRecDepth 100000 in
set_option maxHeartbeats 4000000 in
theorem dlocal_1 {k1 p k : Nat} {z ch : Int} {x : Value} {w : World} (hx : IsI k1 z x w) (HK : Hid (k1 ≤ 33554432)) (HSG : Hid (Sg w)) (HP : Hid (-9223372036854775808 ≤ ((p : Nat) : Int) ∧ ((p : Nat) : Int) ≤ 9223372036854775807 ∧ 0 < p ∧ p ≤ 4611686018427387904)) (HCH : Hid (kr z p = ch)) (HZ : Hid ((ch == 0) = false)) (HO : Hid ((ch == 1) = true)) (res : Int) (HR : Hid (IntKind.i64.wrap (((k : Nat) : Int) + 1) = res)) (rs : Int) (HRES : Hid (res = rs)) : Calls Tryz.prog 44 #[x, .int .i64 ((p : Nat) : Int), .int .i64 ((k : Nat) : Int)] w (Ret w (IsV (.int .i64 (rs)))) := by
 obtain ⟨s1, a1, n1, c1, rfl, h1⟩ := hx
 have h1 : IsI _ _ _ w := ⟨_, _, _, _, rfl, h1⟩
 obtain ⟨W, hW, S⟩ : ∃ W, W = w.alloc (.cells #[.bool s1, .slice a1 n1 c1] 33) ∧ Sto w W [((w.heap.size, 0), IsI k1 z)] := ⟨_, rfl, ((Sto.start w).new1 (w.heap.size) (by simp) s1 a1 n1 c1 33 (IsI k1 z) (IsI.gstb _ _) (h1))⟩
 clear h1
 go_enter Tryz.func44, Tryz.ntmps44
 go_upto_region 1 with (fail)
 rw [← hW]
 clear hW
 refine rg 4 [some 7, some 8, some 9, some 10] [IsI k1 z, IsV (.int .i64 ((p : Nat) : Int)), IsI 2 (((p : Nat) : Int)), IsV (.int .i64 ch)] [] 0 ?_ ?_
 ·refine Rc (ldI S 0 (w.heap.size) 0 (Od.lit 3) ld_Int) ?_
  refine Rc (mv (Od.lit 1)) ?_
  refine Rc (cl1 (en Tryz.func41) (Od.lc (Φ := IsV (.int .i64 ((p : Nat) : Int))) 1 8) (fun x0 w' hE d0 => by { obtain rfl : x0 = .int .i64 ((p : Nat) : Int) := d0; exact Of_f _ ((p : Nat) : Int) HP.out.1 HP.out.2.1 })) ?_
  refine Rc (cl2 (en Tryz.func62) (Od.lc (Φ := IsI k1 z) 0 7) (Od.lc (Φ := IsI 2 (((p : Nat) : Int))) 2 9) (fun x0 x1 w' hE d0 d1 => (by have hh := Kron_f d0 d1 HK.out (by decide) (HSG.out.ext (S.ext.trans hE)) HP.out.2.2; rw [HCH.out] at hh; exact hh))) ?_
  exact RgAll.nil
 intro v W1 e1 hΦ _
 replace S := S.mono e1
 have v3 : v 3 = .int .i64 ch := hΦ 3 (by decide)
 simp only [layL, Act.put, uAx, u0x, u1x, Nat.reduceAdd]
 rw [v3]
 clear v3 hΦ e1
 refine wpAny_done (by kernel_rfl) ?_ _
 go_upto_region 2 with (fail)
 refine rgs 2 [some 12, some 11] [IsV (.bool false), IsV (.bool false)] [] ?_ ?_
 ·refine Rc (bn (r := .bool false) (Od.lit (x := .int .i64 ch) 10) Od.con (hr := fun w => by have hx9 := HZ.out; go_simp)) ?_
  refine Rc (mv (Od.lc 0 12)) ?_
  exact RgAll.nil
 intro v W2 e1 hΦ _
 replace S := S.mono e1
 have v1 : v 1 = .bool false := hΦ 1 (by decide)
 simp only [layL, Act.put, uAx, u0x, u1x, Nat.reduceAdd]
 rw [v1]
 clear v1 hΦ e1
 refine wpList_nil ?_
 go_upto_region 4 with (fail)
 refine rgs 2 [some 14, some 13] [IsV (.bool true), IsV (.bool true)] [] ?_ ?_
 ·refine Rc (bn (r := .bool true) (Od.lit (x := .int .i64 ch) 10) Od.con (hr := fun w => by have hx9 := HO.out; go_simp)) ?_
  refine Rc (mv (Od.lc 0 14)) ?_
  exact RgAll.nil
 intro v W3 e1 hΦ _
 replace S := S.mono e1
 have v1 : v 1 = .bool true := hΦ 1 (by decide)
 simp only [layL, Act.put, uAx, u0x, u1x, Nat.reduceAdd]
 rw [v1]
 clear v1 hΦ e1
 refine wpList_nil ?_
 go_upto_region 5 with (fail)
 refine rgs 3 [some 15, some 16, some 6] [IsV (.int .i64 ((k : Nat) : Int)), IsV (.int .i64 res), IsV (.int .i64 res)] [] ?_ ?_
 ·refine Rc (mv (Od.lit 2)) ?_
  refine Rc (bn (r := .int .i64 res) (Od.loc 0 15) Od.con (hr := fun w => by have hx9 := HR.out; go_simp)) ?_
  refine Rc (mv (Od.lc 1 16)) ?_
  exact RgAll.nil
 intro v W4 e1 hΦ _
 replace S := S.mono e1
 have v2 : v 2 = .int .i64 res := hΦ 2 (by decide)
 simp only [layL, Act.put, uAx, u0x, u1x, Nat.reduceAdd]
 rw [v2]
 clear v2 hΦ e1
 refine wpList_nil ?_
 go_wp2_with fail
 exact bodyPost_ret (v := .int .i64 res) (by simp [results, Tryz.results44, go_sem]) rfl (⟨_, rfl, S.ext, HRES.out ▸ rfl⟩)

set_option maxRecDepth 100000 in
set_option maxHeartbeats 4000000 in
theorem dlocal_2 {k1 p k : Nat} {z ch : Int} {x : Value} {w : World} (hx : IsI k1 z x w) (HK : Hid (k1 ≤ 33554432)) (HSG : Hid (Sg w)) (HP : Hid (-9223372036854775808 ≤ ((p : Nat) : Int) ∧ ((p : Nat) : Int) ≤ 9223372036854775807 ∧ 0 < p ∧ p ≤ 4611686018427387904)) (HCH : Hid (kr z p = ch)) (HZ : Hid ((ch == 0) = false)) (HO : Hid ((ch == 1) = false)) (m2 res : Int) (HM : Hid (((k : Nat) : Int) % 2 = m2 ∧ ((k : Nat) : Int).tmod 2 = m2)) (HR : Hid (IntKind.i64.wrap (1 - m2) = res)) (rs : Int) (HRES : Hid (res = rs)) : Calls Tryz.prog 44 #[x, .int .i64 ((p : Nat) : Int), .int .i64 ((k : Nat) : Int)] w (Ret w (IsV (.int .i64 (rs)))) := by
 obtain ⟨s1, a1, n1, c1, rfl, h1⟩ := hx
 have h1 : IsI _ _ _ w := ⟨_, _, _, _, rfl, h1⟩
 obtain ⟨W, hW, S⟩ : ∃ W, W = w.alloc (.cells #[.bool s1, .slice a1 n1 c1] 33) ∧ Sto w W [((w.heap.size, 0), IsI k1 z)] := ⟨_, rfl, ((Sto.start w).new1 (w.heap.size) (by simp) s1 a1 n1 c1 33 (IsI k1 z) (IsI.gstb _ _) (h1))⟩
 clear h1
 go_enter Tryz.func44, Tryz.ntmps44
 go_upto_region 1 with (fail)
 rw [← hW]
 clear hW
 refine rg 4 [some 7, some 8, some 9, some 10] [IsI k1 z, IsV (.int .i64 ((p : Nat) : Int)), IsI 2 (((p : Nat) : Int)), IsV (.int .i64 ch)] [] 0 ?_ ?_
 ·refine Rc (ldI S 0 (w.heap.size) 0 (Od.lit 3) ld_Int) ?_
  refine Rc (mv (Od.lit 1)) ?_
  refine Rc (cl1 (en Tryz.func41) (Od.lc (Φ := IsV (.int .i64 ((p : Nat) : Int))) 1 8) (fun x0 w' hE d0 => by { obtain rfl : x0 = .int .i64 ((p : Nat) : Int) := d0; exact Of_f _ ((p : Nat) : Int) HP.out.1 HP.out.2.1 })) ?_
  refine Rc (cl2 (en Tryz.func62) (Od.lc (Φ := IsI k1 z) 0 7) (Od.lc (Φ := IsI 2 (((p : Nat) : Int))) 2 9) (fun x0 x1 w' hE d0 d1 => (by have hh := Kron_f d0 d1 HK.out (by decide) (HSG.out.ext (S.ext.trans hE)) HP.out.2.2; rw [HCH.out] at hh; exact hh))) ?_
  exact RgAll.nil
 intro v W1 e1 hΦ _
 replace S := S.mono e1
 have v3 : v 3 = .int .i64 ch := hΦ 3 (by decide)
 simp only [layL, Act.put, uAx, u0x, u1x, Nat.reduceAdd]
 rw [v3]
 clear v3 hΦ e1
 refine wpAny_done (by kernel_rfl) ?_ _
 go_upto_region 2 with (fail)
 refine rgs 2 [some 12, some 11] [IsV (.bool false), IsV (.bool false)] [] ?_ ?_
 ·refine Rc (bn (r := .bool false) (Od.lit (x := .int .i64 ch) 10) Od.con (hr := fun w => by have hx9 := HZ.out; go_simp)) ?_
  refine Rc (mv (Od.lc 0 12)) ?_
  exact RgAll.nil
 intro v W2 e1 hΦ _
 replace S := S.mono e1
 have v1 : v 1 = .bool false := hΦ 1 (by decide)
 simp only [layL, Act.put, uAx, u0x, u1x, Nat.reduceAdd]
 rw [v1]
 clear v1 hΦ e1
 refine wpList_nil ?_
 go_upto_region 4 with (fail)
 refine rgs 2 [some 14, some 13] [IsV (.bool false), IsV (.bool false)] [] ?_ ?_
 ·refine Rc (bn (r := .bool false) (Od.lit (x := .int .i64 ch) 10) Od.con (hr := fun w => by have hx9 := HO.out; go_simp)) ?_
  refine Rc (mv (Od.lc 0 14)) ?_
  exact RgAll.nil
 intro v W3 e1 hΦ _
 replace S := S.mono e1
 have v1 : v 1 = .bool false := hΦ 1 (by decide)
 simp only [layL, Act.put, uAx, u0x, u1x, Nat.reduceAdd]
 rw [v1]
 clear v1 hΦ e1
 refine wpList_nil ?_
 go_upto_region 6 with (fail)
 refine rgs 4 [some 17, some 18, some 19, some 6] [IsV (.int .i64 ((k : Nat) : Int)), IsV (.int .i64 m2), IsV (.int .i64 res), IsV (.int .i64 res)] [] ?_ ?_
 ·refine Rc (mv (Od.lit 2)) ?_
  refine Rc (bn (r := .int .i64 m2) (Od.loc 0 17) Od.con (hr := fun w => by have hx9 := HM.out.1; have hx8 := HM.out.2; go_simp)) ?_
  refine Rc (bn (r := .int .i64 res) Od.con (Od.loc 1 18) (hr := fun w => by have hx9 := HR.out; go_simp)) ?_
  refine Rc (mv (Od.lc 2 19)) ?_
  exact RgAll.nil
 intro v W4 e1 hΦ _
 replace S := S.mono e1
 have v3 : v 3 = .int .i64 res := hΦ 3 (by decide)
 simp only [layL, Act.put, uAx, u0x, u1x, Nat.reduceAdd]
 rw [v3]
 clear v3 hΦ e1
 refine wpList_nil ?_
 go_wp2_with fail
 exact bodyPost_ret (v := .int .i64 res) (by simp [results, Tryz.results44, go_sem]) rfl (⟨_, rfl, S.ext, HRES.out ▸ rfl⟩)

theorem dlocal_f {k1 p k : Nat} {z : Int} {x : Value} {w : World} (hx : IsI k1 z x w) (l1 : k1 ≤ 33554432) (hs : Sg w) (hp : 0 < p ∧ p ≤ 1048576) (hk : k ≤ 1048576) : Calls Tryz.prog 44 #[x, .int .i64 ((p : Nat) : Int), .int .i64 ((k : Nat) : Int)] w (Ret w (IsV (.int .i64 (locg (kr z) p k)))) := by
 have HP := hid (show -9223372036854775808 ≤ ((p : Nat) : Int) ∧ ((p : Nat) : Int) ≤ 9223372036854775807 ∧ 0 < p ∧ p ≤ 4611686018427387904 by omega)
 unfold locg
 by_cases h0 : kr z p = 0
 ·rw [if_pos h0]
  exact dlocal_0 hx (hid l1) (hid hs) HP (hid rfl) (hid (by rw [h0]; rfl))
 ·rw [if_neg h0]
  by_cases h1 : kr z p = 1
  ·rw [if_pos h1]
   exact dlocal_1 hx (hid l1) (hid hs) HP (hid rfl) (hid (by rw [beq_eq_false_iff_ne]; exact h0)) (hid (by rw [h1]; rfl)) _ (hid rfl) _ (hid (by simp only [IntKind.wrap_i64]; omega))
  ·rw [if_neg h1]
   exact dlocal_2 hx (hid l1) (hid hs) HP (hid rfl) (hid (by rw [beq_eq_false_iff_ne]; exact h0)) (hid (by rw [beq_eq_false_iff_ne]; exact h1)) _ _ (hid ⟨rfl, Int.tmod_eq_emod_of_nonneg (by omega)⟩) (hid rfl) _ (hid (by simp only [IntKind.wrap_i64]; omega))
end Go.Proofs.YtknffgdbdadpcaaGreatDoor
