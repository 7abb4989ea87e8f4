/-
 What both sides answer to an integer that is no discriminant, or too far below. (Printed by wip/gen/den37.py.)
 Package density and its reference at what they refuse. (Printed by wip/gen/den38.py.)
 The empty row that a program writes as a literal: it stands in memory, and grows by append.
-/
import Derived.Test.YtknffgdbdadpcaaGreatDoorDen36
import Derived.Test.YtknffgdbdadpcaaGreatDoorDen16
import Derived.Test.YtknffgdbdadpcaaGreatDoorDen7
import Derived.Test.YtknffgdbdadpcaaGreatDoorDen12
import Derived.Test.YtknffgdbdadpcaaGreatDoorRwg
namespace Go.Proofs.YtknffgdbdadpcaaGreatDoor
open Go Go.RowKit
/-- The error of an integer as a discriminant. -/
def dE (z : Int) : Int := if 0 ≤ z ∨ 1 < z % 4 then 5 else if z < -4194304 then 2 else 0

set_option maxRecDepth 100000 in
set_option maxHeartbeats 8000000 in
theorem rref_p {k1 : Nat} {z sg : Int} {x : Value} {w : World} (hx : IsI k1 z x w) (HK : Hid (k1 ≤ 131072)) (HSG : Hid (z.sign = sg)) (HSB : Hid (0 ≤ sg)) : Calls Tryz.prog 63 #[x] w (Ret w (IsV (.int .i64 5))) := by
 obtain ⟨s1, a1, n1, c1, rfl, h1⟩ := hx
 have h1 : IsI _ _ _ w := ⟨_, _, _, _, rfl, h1⟩
 obtain ⟨W, hW, S⟩ : ∃ W, W = w.alloc (.cells #[.bool s1, .slice a1 n1 c1] 33) ∧ Sto w W [((w.heap.size, 0), IsI k1 z)] := ⟨_, rfl, ((Sto.start w).new1 (w.heap.size) (by simp) s1 a1 n1 c1 33 (IsI k1 z) (IsI.gstb _ _) (h1))⟩
 clear h1
 go_enter Tryz.func63, Tryz.ntmps63
 go_upto_region 1 with (fail)
 rw [← hW]
 clear hW
 refine rg 11 [some 3, some 4, some 5, some 6, some 7, some 8, some 9, some 10, some 11, some 12, some 13] [IsI k1 z, IsV (.int .i64 sg), IsV (.bool true), IsV (.bool true), IsV (undef), IsV (undef), IsV (undef), IsV (undef), IsV (undef), IsV (undef), IsV (.bool true)] [] 0 ?_ ?_
 ·refine Rc (ldI S 0 (w.heap.size) 0 (Od.lit 1) ld_Int) ?_
  refine Rc (cl1 (en Tryz.func65) (Od.lc (Φ := IsI k1 z) 0 3) (fun x0 w' hE d0 => Calls.mono (RSign_f d0) fun _ _ h => h.int HSG.out)) ?_
  refine Rc (bn (r := .bool true) (Od.loc 1 4) Od.con (hr := fun w => by have hx9 := HSB.out; go_simp)) ?_
  refine Rc (mv (Od.lc 2 5)) ?_
  refine RcN 3 6 true ?_
  refine RcN 3 6 true ?_
  refine RcN 3 6 true ?_
  refine RcN 3 6 true ?_
  refine RcN 3 6 true ?_
  refine RcN 3 6 true ?_
  refine Rc (pk (Od.loc 3 6) Od.con) ?_
  exact RgAll.nil
 intro v W1 e1 hΦ _
 replace S := S.mono e1
 have v10 : v 10 = .bool true := hΦ 10 (by decide)
 simp only [layL, Act.put, uAx, u0x, u1x, Nat.reduceAdd]
 rw [v10]
 clear v10 hΦ e1
 refine wpAny_done (by kernel_rfl) ?_ _
 go_upto_region 2 with (fail)
 refine rgs 1 [some 2] [IsV (.int .i64 5)] [] ?_ ?_
 ·refine Rc (mv Od.con) ?_
  exact RgAll.nil
 intro v W2 e1 hΦ _
 replace S := S.mono e1
 have v0 : v 0 = .int .i64 5 := hΦ 0 (by decide)
 simp only [layL, Act.put, uAx, u0x, u1x]
 rw [v0]
 clear v0 hΦ e1
 refine wpList_nil ?_
 go_wp2_with fail
 exact bodyPost_ret (v := .int .i64 5) (by simp [results, Tryz.results63, go_sem]) rfl (⟨_, rfl, S.ext, rfl⟩)

set_option maxRecDepth 100000 in
set_option maxHeartbeats 8000000 in
theorem rref_m {k1 : Nat} {z sg q r cq : Int} {x : Value} {w : World} (hx : IsI k1 z x w) (HK : Hid (k1 ≤ 131072)) (HSG : Hid (z.sign = sg)) (HSB : Hid (sg < 0)) (HQR : Hid (z / 4 = q)) (HR : Hid (z % 4 = r)) (HC1 : Hid (cmpI r 1 = cq)) (HC1B : Hid (0 < cq)) : Calls Tryz.prog 63 #[x] w (Ret w (IsV (.int .i64 5))) := by
 obtain ⟨s1, a1, n1, c1, rfl, h1⟩ := hx
 have h1 : IsI _ _ _ w := ⟨_, _, _, _, rfl, h1⟩
 obtain ⟨W, hW, S⟩ : ∃ W, W = w.alloc (.cells #[.bool s1, .slice a1 n1 c1] 33) ∧ Sto w W [((w.heap.size, 0), IsI k1 z)] := ⟨_, rfl, ((Sto.start w).new1 (w.heap.size) (by simp) s1 a1 n1 c1 33 (IsI k1 z) (IsI.gstb _ _) (h1))⟩
 clear h1
 go_enter Tryz.func63, Tryz.ntmps63
 go_upto_region 1 with (fail)
 rw [← hW]
 clear hW
 refine rg 11 [some 3, some 4, some 5, some 6, some 7, some 8, some 9, some 10, some 11, some 12, some 13] [IsI k1 z, IsV (.int .i64 sg), IsV (.bool false), IsV (.bool false), IsI k1 z, IsI 2 4, IsI 2 r, IsI 2 1, IsV (.int .i64 cq), IsV (.bool true), IsV (.bool true)] [] 0 ?_ ?_
 ·refine Rc (ldI S 0 (w.heap.size) 0 (Od.lit 1) ld_Int) ?_
  refine Rc (cl1 (en Tryz.func65) (Od.lc (Φ := IsI k1 z) 0 3) (fun x0 w' hE d0 => Calls.mono (RSign_f d0) fun _ _ h => h.int HSG.out)) ?_
  refine Rc (bn (r := .bool false) (Od.loc 1 4) Od.con (hr := fun w => by have hx9 := HSB.out; go_simp)) ?_
  refine Rc (mv (Od.lc 2 5)) ?_
  refine RcG 3 6 false (ldI S 0 (w.heap.size) 0 (Od.lit 1) ld_Int) ?_
  refine RcG 3 6 false (cl1 (en Tryz.func22) Od.con (fun x0 w' hE d0 => by { obtain rfl : x0 = .int .i64 4 := d0; exact ROf_f _ 4 (by decide) (by decide) })) ?_
  refine RcG 3 6 false (cl2 (en Tryz.func94) (Od.lc (Φ := IsI k1 z) 4 7) (Od.lc (Φ := IsI 2 4) 5 8) (fun x0 x1 w' hE d0 d1 => Calls.mono (RMod_f d0 d1 (by have := HK.out; omega) (by decide) (by decide)) fun _ _ h => h.eqz HR.out)) ?_
  refine RcG 3 6 false (cl1 (en Tryz.func22) Od.con (fun x0 w' hE d0 => by { obtain rfl : x0 = .int .i64 1 := d0; exact ROf_f _ 1 (by decide) (by decide) })) ?_
  refine RcG 3 6 false (cl2 (en Tryz.func31) (Od.lc (Φ := IsI 2 r) 6 9) (Od.lc (Φ := IsI 2 1) 7 10) (fun x0 x1 w' hE d0 d1 => Calls.mono (RCmp_f d0 d1 (by decide) (by decide)) fun _ _ h => h.int HC1.out)) ?_
  refine RcG 3 6 false (bn (r := .bool true) (Od.loc 8 11) Od.con (hr := fun w => by have hx9 := HC1B.out; go_simp)) ?_
  refine Rc (pk (Od.loc 3 6) (Od.lc 9 12)) ?_
  exact RgAll.nil
 intro v W1 e1 hΦ _
 replace S := S.mono e1
 have v10 : v 10 = .bool true := hΦ 10 (by decide)
 simp only [layL, Act.put, uAx, u0x, u1x, Nat.reduceAdd]
 rw [v10]
 clear v10 hΦ e1
 refine wpAny_done (by kernel_rfl) ?_ _
 go_upto_region 2 with (fail)
 refine rgs 1 [some 2] [IsV (.int .i64 5)] [] ?_ ?_
 ·refine Rc (mv Od.con) ?_
  exact RgAll.nil
 intro v W2 e1 hΦ _
 replace S := S.mono e1
 have v0 : v 0 = .int .i64 5 := hΦ 0 (by decide)
 simp only [layL, Act.put, uAx, u0x, u1x]
 rw [v0]
 clear v0 hΦ e1
 refine wpList_nil ?_
 go_wp2_with fail
 exact bodyPost_ret (v := .int .i64 5) (by simp [results, Tryz.results63, go_sem]) rfl (⟨_, rfl, S.ext, rfl⟩)

set_option maxRecDepth 100000 in
set_option maxHeartbeats 8000000 in
theorem rref_b {k1 : Nat} {z sg q r cq cr : Int} {x : Value} {w : World} (hx : IsI k1 z x w) (HK : Hid (k1 ≤ 131072)) (HSG : Hid (z.sign = sg)) (HSB : Hid (sg < 0)) (HQR : Hid (z / 4 = q)) (HR : Hid (z % 4 = r)) (HC1 : Hid (cmpI r 1 = cq)) (HC1B : Hid (¬ 0 < cq)) (HC2 : Hid (cmpI z (-4194304) = cr)) (HC2B : Hid (cr < 0)) : Calls Tryz.prog 63 #[x] w (Ret w (IsV (.int .i64 2))) := by
 obtain ⟨s1, a1, n1, c1, rfl, h1⟩ := hx
 have h1 : IsI _ _ _ w := ⟨_, _, _, _, rfl, h1⟩
 obtain ⟨W, hW, S⟩ : ∃ W, W = w.alloc (.cells #[.bool s1, .slice a1 n1 c1] 33) ∧ Sto w W [((w.heap.size, 0), IsI k1 z)] := ⟨_, rfl, ((Sto.start w).new1 (w.heap.size) (by simp) s1 a1 n1 c1 33 (IsI k1 z) (IsI.gstb _ _) (h1))⟩
 clear h1
 go_enter Tryz.func63, Tryz.ntmps63
 go_upto_region 1 with (fail)
 rw [← hW]
 clear hW
 refine rg 11 [some 3, some 4, some 5, some 6, some 7, some 8, some 9, some 10, some 11, some 12, some 13] [IsI k1 z, IsV (.int .i64 sg), IsV (.bool false), IsV (.bool false), IsI k1 z, IsI 2 4, IsI 2 r, IsI 2 1, IsV (.int .i64 cq), IsV (.bool false), IsV (.bool false)] [] 0 ?_ ?_
 ·refine Rc (ldI S 0 (w.heap.size) 0 (Od.lit 1) ld_Int) ?_
  refine Rc (cl1 (en Tryz.func65) (Od.lc (Φ := IsI k1 z) 0 3) (fun x0 w' hE d0 => Calls.mono (RSign_f d0) fun _ _ h => h.int HSG.out)) ?_
  refine Rc (bn (r := .bool false) (Od.loc 1 4) Od.con (hr := fun w => by have hx9 := HSB.out; go_simp)) ?_
  refine Rc (mv (Od.lc 2 5)) ?_
  refine RcG 3 6 false (ldI S 0 (w.heap.size) 0 (Od.lit 1) ld_Int) ?_
  refine RcG 3 6 false (cl1 (en Tryz.func22) Od.con (fun x0 w' hE d0 => by { obtain rfl : x0 = .int .i64 4 := d0; exact ROf_f _ 4 (by decide) (by decide) })) ?_
  refine RcG 3 6 false (cl2 (en Tryz.func94) (Od.lc (Φ := IsI k1 z) 4 7) (Od.lc (Φ := IsI 2 4) 5 8) (fun x0 x1 w' hE d0 d1 => Calls.mono (RMod_f d0 d1 (by have := HK.out; omega) (by decide) (by decide)) fun _ _ h => h.eqz HR.out)) ?_
  refine RcG 3 6 false (cl1 (en Tryz.func22) Od.con (fun x0 w' hE d0 => by { obtain rfl : x0 = .int .i64 1 := d0; exact ROf_f _ 1 (by decide) (by decide) })) ?_
  refine RcG 3 6 false (cl2 (en Tryz.func31) (Od.lc (Φ := IsI 2 r) 6 9) (Od.lc (Φ := IsI 2 1) 7 10) (fun x0 x1 w' hE d0 d1 => Calls.mono (RCmp_f d0 d1 (by decide) (by decide)) fun _ _ h => h.int HC1.out)) ?_
  refine RcG 3 6 false (bn (r := .bool false) (Od.loc 8 11) Od.con (hr := fun w => by have hx9 := HC1B.out; go_simp)) ?_
  refine Rc (pk (Od.loc 3 6) (Od.lc 9 12)) ?_
  exact RgAll.nil
 intro v W1 e1 hΦ _
 replace S := S.mono e1
 have v10 : v 10 = .bool false := hΦ 10 (by decide)
 simp only [layL, Act.put, uAx, u0x, u1x, Nat.reduceAdd]
 rw [v10]
 clear v10 hΦ e1
 refine wpAny_done (by kernel_rfl) ?_ _
 go_upto_region 3 with (fail)
 refine rg 4 [some 14, some 15, some 16, some 17] [IsI k1 z, IsI 2 ((-4194304)), IsV (.int .i64 cr), IsV (.bool true)] [] 0 ?_ ?_
 ·refine Rc (ldI S 0 (w.heap.size) 0 (Od.lit 1) ld_Int) ?_
  refine Rc (cl1 (en Tryz.func22) Od.con (fun x0 w' hE d0 => by { obtain rfl : x0 = .int .i64 (-4194304) := d0; exact ROf_f _ ((-4194304)) (by decide) (by decide) })) ?_
  refine Rc (cl2 (en Tryz.func31) (Od.lc (Φ := IsI k1 z) 0 14) (Od.lc (Φ := IsI 2 ((-4194304))) 1 15) (fun x0 x1 w' hE d0 d1 => Calls.mono (RCmp_f d0 d1 (by have := HK.out; omega) (by decide)) fun _ _ h => h.int HC2.out)) ?_
  refine Rc (bn (r := .bool true) (Od.loc 2 16) Od.con (hr := fun w => by have hx9 := HC2B.out; go_simp)) ?_
  exact RgAll.nil
 intro v W2 e1 hΦ _
 replace S := S.mono e1
 have v3 : v 3 = .bool true := hΦ 3 (by decide)
 simp only [layL, Act.put, uAx, u0x, u1x, Nat.reduceAdd]
 rw [v3]
 clear v3 hΦ e1
 refine wpAny_done (by kernel_rfl) ?_ _
 go_upto_region 4 with (fail)
 refine rgs 1 [some 2] [IsV (.int .i64 2)] [] ?_ ?_
 ·refine Rc (mv Od.con) ?_
  exact RgAll.nil
 intro v W3 e1 hΦ _
 replace S := S.mono e1
 have v0 : v 0 = .int .i64 2 := hΦ 0 (by decide)
 simp only [layL, Act.put, uAx, u0x, u1x]
 rw [v0]
 clear v0 hΦ e1
 refine wpList_nil ?_
 go_wp2_with fail
 exact bodyPost_ret (v := .int .i64 2) (by simp [results, Tryz.results63, go_sem]) rfl (⟨_, rfl, S.ext, rfl⟩)

set_option maxRecDepth 100000 in
set_option maxHeartbeats 8000000 in
theorem dref_m {k1 : Nat} {z sg q r cq : Int} {x : Value} {w : World} (hx : IsI k1 z x w) (HK : Hid (k1 ≤ 131072)) (HSG : Hid (z.sign = sg)) (HSB : Hid (sg < 0)) (HQR : Hid (z / 4 = q)) (HR : Hid (z % 4 = r)) (HC1 : Hid (cmpI r 1 = cq)) (HC1B : Hid (0 < cq)) : Calls Tryz.prog 61 #[x] w (Ret w (IsV (.int .i64 5))) := by
 obtain ⟨s1, a1, n1, c1, rfl, h1⟩ := hx
 have h1 : IsI _ _ _ w := ⟨_, _, _, _, rfl, h1⟩
 obtain ⟨W, hW, S⟩ : ∃ W, W = w.alloc (.cells #[.bool s1, .slice a1 n1 c1] 33) ∧ Sto w W [((w.heap.size, 0), IsI k1 z)] := ⟨_, rfl, ((Sto.start w).new1 (w.heap.size) (by simp) s1 a1 n1 c1 33 (IsI k1 z) (IsI.gstb _ _) (h1))⟩
 clear h1
 go_enter Tryz.func61, Tryz.ntmps61
 go_upto_region 1 with (fail)
 rw [← hW]
 clear hW
 have hl := hid S.lt; have hw := S.ext.size
 refine rgn 12 [some 7, some 8, some 9, some 6, some 10, some 11, some 12, some 3, some 4, none, none, some 5] [IsI k1 z, IsI 2 4, IsT3 (IsI k1 q) (IsI 2 r) (IsV (.int .i64 0)), IsT3 (IsI k1 q) (IsI 2 r) (IsV (.int .i64 0)), IsI k1 q, IsI 2 r, IsV (.int .i64 0), IsNw W 1, IsNw W 1, TT, TT, IsV (.int .i64 0)] [7, 8] [none, none, none, none, none, none, none, none, none, some (7, [IsI k1 q]), some (8, [IsI 2 r]), none] [none, none, none, none, none, none, none, none, none, some 7, some 8, none] 0 ?_ ?_
 ·refine RcK (ldI S 0 (w.heap.size) 0 (Od.lit 1) ld_Int) ?_
  refine RcK (cl1 (en Tryz.func41) Od.con (fun x0 w' hE d0 => by { obtain rfl : x0 = .int .i64 4 := d0; exact Of_f _ 4 (by decide) (by decide) })) ?_
  refine RcK (cl2 (en Tryz.func111) (Od.lc (Φ := IsI k1 z) 0 7) (Od.lc (Φ := IsI 2 4) 1 8) (fun x0 x1 w' hE d0 d1 => (by have hh := DivMod_f d0 d1 (by have := HK.out; omega) (by decide) (by decide); rw [HQR.out, HR.out] at hh; exact hh))) ?_
  refine RcK (mv (Od.lc 2 9)) ?_
  refine RcK (ex (Od.loc 3 6) t30) ?_
  refine RcK (ex (Od.loc 3 6) t31) ?_
  refine RcK (ex (Od.loc 3 6) t32) ?_
  refine RcK (alN al_Int) ?_
  refine RcK (alN al_Int) ?_
  refine RcS 7 (sI st_Int (Od.lc (Φ := IsI k1 q) 4 10)) ?_
  refine RcS 8 (sI st_Int (Od.lc (Φ := IsI 2 r) 5 11)) ?_
  refine RcK (mv (Od.lc 6 12)) ?_
  exact RgAllN.nil
 intro v W1 e1 hΦ hS hne
 replace S := S.mono e1
 obtain ⟨g3, v7, q1, S2⟩ := S.addI (hΦ 7 (by decide) rfl) (hS 9 (by decide) _ _ rfl) hw (IsI.gstb _ _)
 replace S := S2 (ApartO.old hl.out q1); clear S2
 obtain ⟨g4, v8, q2, S2⟩ := S.addI (hΦ 8 (by decide) rfl) (hS 10 (by decide) _ _ rfl) hw (IsI.gstb _ _)
 replace S := S2 (ApartO.cons (fun h => hne 7 8 (by decide) (by decide) (by decide) (by decide) (by decide) rfl rfl (by rw [v7, v8, h])) (ApartO.old hl.out q2)); clear S2
 simp only [layL, Act.put, uAx, u0x, u1x, Nat.reduceAdd]
 rw [v7, v8]
 clear hl hw hne v7 v8 hΦ hS e1
 refine wpAny_done (by kernel_rfl) ?_ _
 go_upto_region 2 with (fail)
 refine rg 10 [some 14, some 15, some 16, some 17, some 18, some 19, some 20, some 21, some 22, some 13] [IsI k1 z, IsV (.int .i64 sg), IsV (.bool false), IsV (.bool false), IsI 2 r, IsI 2 1, IsV (.int .i64 cq), IsV (.bool true), IsV (.bool true), IsV (.bool true)] [] 0 ?_ ?_
 ·refine Rc (ldI S 2 (w.heap.size) 0 (Od.lit 1) ld_Int) ?_
  refine Rc (cl1 (en Tryz.func84) (Od.lc (Φ := IsI k1 z) 0 14) (fun x0 w' hE d0 => Calls.mono (Sign_f d0) fun _ _ h => h.int HSG.out)) ?_
  refine Rc (bn (r := .bool false) (Od.loc 1 15) Od.con (hr := fun w => by have hx9 := HSB.out; go_simp)) ?_
  refine Rc (mv (Od.lc 2 16)) ?_
  refine RcG 3 17 false (ldI S 0 (g4) 0 (Od.lit 4) ld_Int) ?_
  refine RcG 3 17 false (cl1 (en Tryz.func41) Od.con (fun x0 w' hE d0 => by { obtain rfl : x0 = .int .i64 1 := d0; exact Of_f _ 1 (by decide) (by decide) })) ?_
  refine RcG 3 17 false (cl2 (en Tryz.func52) (Od.lc (Φ := IsI 2 r) 4 18) (Od.lc (Φ := IsI 2 1) 5 19) (fun x0 x1 w' hE d0 d1 => Calls.mono (Cmp_f d0 d1 (by decide) (by decide)) fun _ _ h => h.int HC1.out)) ?_
  refine RcG 3 17 false (bn (r := .bool true) (Od.loc 6 20) Od.con (hr := fun w => by have hx9 := HC1B.out; go_simp)) ?_
  refine Rc (pk (Od.loc 3 17) (Od.lc 7 21)) ?_
  refine Rc (mv (Od.lc 8 22)) ?_
  exact RgAll.nil
 intro v W2 e1 hΦ _
 replace S := S.mono e1
 have v9 : v 9 = .bool true := hΦ 9 (by decide)
 simp only [layL, Act.put, uAx, u0x, u1x, Nat.reduceAdd]
 rw [v9]
 clear v9 hΦ e1
 refine wpAny_done (by kernel_rfl) ?_ _
 go_upto_region 3 with (fail)
 refine rgs 1 [some 2] [IsV (.int .i64 5)] [] ?_ ?_
 ·refine Rc (mv Od.con) ?_
  exact RgAll.nil
 intro v W3 e1 hΦ _
 replace S := S.mono e1
 have v0 : v 0 = .int .i64 5 := hΦ 0 (by decide)
 simp only [layL, Act.put, uAx, u0x, u1x]
 rw [v0]
 clear v0 hΦ e1
 refine wpList_nil ?_
 go_wp2_with fail
 exact bodyPost_ret (v := .int .i64 5) (by simp [results, Tryz.results61, go_sem]) rfl (⟨_, rfl, S.ext, rfl⟩)

set_option maxRecDepth 100000 in
set_option maxHeartbeats 8000000 in
theorem dref_b {k1 : Nat} {z sg q r cq cr : Int} {x : Value} {w : World} (hx : IsI k1 z x w) (HK : Hid (k1 ≤ 131072)) (HSG : Hid (z.sign = sg)) (HSB : Hid (sg < 0)) (HQR : Hid (z / 4 = q)) (HR : Hid (z % 4 = r)) (HC1 : Hid (cmpI r 1 = cq)) (HC1B : Hid (¬ 0 < cq)) (HC2 : Hid (cmpI z (-4194304) = cr)) (HC2B : Hid (cr < 0)) : Calls Tryz.prog 61 #[x] w (Ret w (IsV (.int .i64 2))) := by
 obtain ⟨s1, a1, n1, c1, rfl, h1⟩ := hx
 have h1 : IsI _ _ _ w := ⟨_, _, _, _, rfl, h1⟩
 obtain ⟨W, hW, S⟩ : ∃ W, W = w.alloc (.cells #[.bool s1, .slice a1 n1 c1] 33) ∧ Sto w W [((w.heap.size, 0), IsI k1 z)] := ⟨_, rfl, ((Sto.start w).new1 (w.heap.size) (by simp) s1 a1 n1 c1 33 (IsI k1 z) (IsI.gstb _ _) (h1))⟩
 clear h1
 go_enter Tryz.func61, Tryz.ntmps61
 go_upto_region 1 with (fail)
 rw [← hW]
 clear hW
 have hl := hid S.lt; have hw := S.ext.size
 refine rgn 12 [some 7, some 8, some 9, some 6, some 10, some 11, some 12, some 3, some 4, none, none, some 5] [IsI k1 z, IsI 2 4, IsT3 (IsI k1 q) (IsI 2 r) (IsV (.int .i64 0)), IsT3 (IsI k1 q) (IsI 2 r) (IsV (.int .i64 0)), IsI k1 q, IsI 2 r, IsV (.int .i64 0), IsNw W 1, IsNw W 1, TT, TT, IsV (.int .i64 0)] [7, 8] [none, none, none, none, none, none, none, none, none, some (7, [IsI k1 q]), some (8, [IsI 2 r]), none] [none, none, none, none, none, none, none, none, none, some 7, some 8, none] 0 ?_ ?_
 ·refine RcK (ldI S 0 (w.heap.size) 0 (Od.lit 1) ld_Int) ?_
  refine RcK (cl1 (en Tryz.func41) Od.con (fun x0 w' hE d0 => by { obtain rfl : x0 = .int .i64 4 := d0; exact Of_f _ 4 (by decide) (by decide) })) ?_
  refine RcK (cl2 (en Tryz.func111) (Od.lc (Φ := IsI k1 z) 0 7) (Od.lc (Φ := IsI 2 4) 1 8) (fun x0 x1 w' hE d0 d1 => (by have hh := DivMod_f d0 d1 (by have := HK.out; omega) (by decide) (by decide); rw [HQR.out, HR.out] at hh; exact hh))) ?_
  refine RcK (mv (Od.lc 2 9)) ?_
  refine RcK (ex (Od.loc 3 6) t30) ?_
  refine RcK (ex (Od.loc 3 6) t31) ?_
  refine RcK (ex (Od.loc 3 6) t32) ?_
  refine RcK (alN al_Int) ?_
  refine RcK (alN al_Int) ?_
  refine RcS 7 (sI st_Int (Od.lc (Φ := IsI k1 q) 4 10)) ?_
  refine RcS 8 (sI st_Int (Od.lc (Φ := IsI 2 r) 5 11)) ?_
  refine RcK (mv (Od.lc 6 12)) ?_
  exact RgAllN.nil
 intro v W1 e1 hΦ hS hne
 replace S := S.mono e1
 obtain ⟨g3, v7, q1, S2⟩ := S.addI (hΦ 7 (by decide) rfl) (hS 9 (by decide) _ _ rfl) hw (IsI.gstb _ _)
 replace S := S2 (ApartO.old hl.out q1); clear S2
 obtain ⟨g4, v8, q2, S2⟩ := S.addI (hΦ 8 (by decide) rfl) (hS 10 (by decide) _ _ rfl) hw (IsI.gstb _ _)
 replace S := S2 (ApartO.cons (fun h => hne 7 8 (by decide) (by decide) (by decide) (by decide) (by decide) rfl rfl (by rw [v7, v8, h])) (ApartO.old hl.out q2)); clear S2
 simp only [layL, Act.put, uAx, u0x, u1x, Nat.reduceAdd]
 rw [v7, v8]
 clear hl hw hne v7 v8 hΦ hS e1
 refine wpAny_done (by kernel_rfl) ?_ _
 go_upto_region 2 with (fail)
 refine rg 10 [some 14, some 15, some 16, some 17, some 18, some 19, some 20, some 21, some 22, some 13] [IsI k1 z, IsV (.int .i64 sg), IsV (.bool false), IsV (.bool false), IsI 2 r, IsI 2 1, IsV (.int .i64 cq), IsV (.bool false), IsV (.bool false), IsV (.bool false)] [] 0 ?_ ?_
 ·refine Rc (ldI S 2 (w.heap.size) 0 (Od.lit 1) ld_Int) ?_
  refine Rc (cl1 (en Tryz.func84) (Od.lc (Φ := IsI k1 z) 0 14) (fun x0 w' hE d0 => Calls.mono (Sign_f d0) fun _ _ h => h.int HSG.out)) ?_
  refine Rc (bn (r := .bool false) (Od.loc 1 15) Od.con (hr := fun w => by have hx9 := HSB.out; go_simp)) ?_
  refine Rc (mv (Od.lc 2 16)) ?_
  refine RcG 3 17 false (ldI S 0 (g4) 0 (Od.lit 4) ld_Int) ?_
  refine RcG 3 17 false (cl1 (en Tryz.func41) Od.con (fun x0 w' hE d0 => by { obtain rfl : x0 = .int .i64 1 := d0; exact Of_f _ 1 (by decide) (by decide) })) ?_
  refine RcG 3 17 false (cl2 (en Tryz.func52) (Od.lc (Φ := IsI 2 r) 4 18) (Od.lc (Φ := IsI 2 1) 5 19) (fun x0 x1 w' hE d0 d1 => Calls.mono (Cmp_f d0 d1 (by decide) (by decide)) fun _ _ h => h.int HC1.out)) ?_
  refine RcG 3 17 false (bn (r := .bool false) (Od.loc 6 20) Od.con (hr := fun w => by have hx9 := HC1B.out; go_simp)) ?_
  refine Rc (pk (Od.loc 3 17) (Od.lc 7 21)) ?_
  refine Rc (mv (Od.lc 8 22)) ?_
  exact RgAll.nil
 intro v W2 e1 hΦ _
 replace S := S.mono e1
 have v9 : v 9 = .bool false := hΦ 9 (by decide)
 simp only [layL, Act.put, uAx, u0x, u1x, Nat.reduceAdd]
 rw [v9]
 clear v9 hΦ e1
 refine wpAny_done (by kernel_rfl) ?_ _
 go_upto_region 4 with (fail)
 refine rg 5 [some 24, some 25, some 26, some 27, some 23] [IsI k1 z, IsI 2 ((-4194304)), IsV (.int .i64 cr), IsV (.bool true), IsV (.bool true)] [] 0 ?_ ?_
 ·refine Rc (ldI S 2 (w.heap.size) 0 (Od.lit 1) ld_Int) ?_
  refine Rc (cl1 (en Tryz.func41) Od.con (fun x0 w' hE d0 => by { obtain rfl : x0 = .int .i64 (-4194304) := d0; exact Of_f _ ((-4194304)) (by decide) (by decide) })) ?_
  refine Rc (cl2 (en Tryz.func52) (Od.lc (Φ := IsI k1 z) 0 24) (Od.lc (Φ := IsI 2 ((-4194304))) 1 25) (fun x0 x1 w' hE d0 d1 => Calls.mono (Cmp_f d0 d1 (by have := HK.out; omega) (by decide)) fun _ _ h => h.int HC2.out)) ?_
  refine Rc (bn (r := .bool true) (Od.loc 2 26) Od.con (hr := fun w => by have hx9 := HC2B.out; go_simp)) ?_
  refine Rc (mv (Od.lc 3 27)) ?_
  exact RgAll.nil
 intro v W3 e1 hΦ _
 replace S := S.mono e1
 have v4 : v 4 = .bool true := hΦ 4 (by decide)
 simp only [layL, Act.put, uAx, u0x, u1x, Nat.reduceAdd]
 rw [v4]
 clear v4 hΦ e1
 refine wpAny_done (by kernel_rfl) ?_ _
 go_upto_region 5 with (fail)
 refine rgs 1 [some 2] [IsV (.int .i64 2)] [] ?_ ?_
 ·refine Rc (mv Od.con) ?_
  exact RgAll.nil
 intro v W4 e1 hΦ _
 replace S := S.mono e1
 have v0 : v 0 = .int .i64 2 := hΦ 0 (by decide)
 simp only [layL, Act.put, uAx, u0x, u1x]
 rw [v0]
 clear v0 hΦ e1
 refine wpList_nil ?_
 go_wp2_with fail
 exact bodyPost_ret (v := .int .i64 2) (by simp [results, Tryz.results61, go_sem]) rfl (⟨_, rfl, S.ext, rfl⟩)

theorem rref_g {k1 : Nat} {z : Int} {x : Value} {w : World} (hx : IsI k1 z x w) (l1 : k1 ≤ 131072) : Calls Tryz.prog 63 #[x] w (Ret w (IsV (.int .i64 (dE z)))) := by
 unfold dE
 by_cases hz : 0 ≤ z
 ·rw [if_pos (Or.inl hz)]
  exact rref_p hx (hid l1) (hid rfl) (hid (Int.sign_nonneg_iff.2 hz))
 have hs : z.sign < 0 := by rw [Int.sign_eq_neg_one_of_neg (by omega)]; decide
 by_cases hm : 1 < z % 4
 ·rw [if_pos (Or.inr hm)]
  exact rref_m hx (hid l1) (hid rfl) (hid hs) (hid rfl) (hid rfl) (hid rfl) (hid (by unfold cmpI; rw [if_neg (by omega), if_pos hm]; decide))
 rw [if_neg (fun h => h.elim hz hm)]
 by_cases hb : z < -4194304
 ·rw [if_pos hb]
  exact rref_b hx (hid l1) (hid rfl) (hid hs) (hid rfl) (hid rfl) (hid rfl) (hid (by unfold cmpI; split <;> (try split) <;> omega)) (hid rfl) (hid (by unfold cmpI; rw [if_pos hb]; decide))
 ·rw [if_neg hb]
  obtain ⟨n, rfl⟩ : ∃ n : Nat, z = -((n : Nat) : Int) := ⟨(-z).toNat, by omega⟩
  exact rrefused_f hx (by omega) (by omega)

theorem dref_g {k1 : Nat} {z : Int} {x : Value} {w : World} (hx : IsI k1 z x w) (l1 : k1 ≤ 131072) : Calls Tryz.prog 61 #[x] w (Ret w (IsV (.int .i64 (dE z)))) := by
 unfold dE
 by_cases hz : 0 ≤ z
 ·rw [if_pos (Or.inl hz)]
  exact drefused_p hx (by omega) hz
 have hs : z.sign < 0 := by rw [Int.sign_eq_neg_one_of_neg (by omega)]; decide
 by_cases hm : 1 < z % 4
 ·rw [if_pos (Or.inr hm)]
  exact dref_m hx (hid l1) (hid rfl) (hid hs) (hid rfl) (hid rfl) (hid rfl) (hid (by unfold cmpI; rw [if_neg (by omega), if_pos hm]; decide))
 rw [if_neg (fun h => h.elim hz hm)]
 by_cases hb : z < -4194304
 ·rw [if_pos hb]
  exact dref_b hx (hid l1) (hid rfl) (hid hs) (hid rfl) (hid rfl) (hid rfl) (hid (by unfold cmpI; split <;> (try split) <;> omega)) (hid rfl) (hid (by unfold cmpI; rw [if_pos hb]; decide))
 ·rw [if_neg hb]
  obtain ⟨n, rfl⟩ : ∃ n : Nat, z = -((n : Nat) : Int) := ⟨(-z).toNat, by omega⟩
  exact drefused_f hx (by omega) (by omega)

end Go.Proofs.YtknffgdbdadpcaaGreatDoor
namespace Go.Proofs.YtknffgdbdadpcaaGreatDoor
open Go Go.RowKit

set_option maxRecDepth 100000 in
set_option maxHeartbeats 8000000 in
theorem Refused_e {k1 k2 : Nat} {z z2 ue : Int} {x y : Value} {w : World} (hx : IsI k1 z x w) (hy : IsI k2 z2 y w) (HK : Hid (k1 ≤ 131072)) (HE : Hid (dE z = ue)) (HUB : Hid ((ue != 0) = true)) : Calls Tryz.prog 23 #[x, y] w (Ret w (IsV (.int .i64 ue))) := by
 obtain ⟨s1, a1, n1, c1, rfl, h1⟩ := hx
 have h1 : IsI _ _ _ w := ⟨_, _, _, _, rfl, h1⟩
 obtain ⟨s2, a2, n2, c2, rfl, h2⟩ := hy
 have h2 : IsI _ _ _ w := ⟨_, _, _, _, rfl, h2⟩
 obtain ⟨W, hW, S⟩ : ∃ W, W = (w.alloc (.cells #[.bool s1, .slice a1 n1 c1] 33)).alloc (.cells #[.bool s2, .slice a2 n2 c2] 33) ∧ Sto w W [((w.heap.size + 1, 0), IsI k2 z2), ((w.heap.size, 0), IsI k1 z)] := ⟨_, rfl, (((Sto.start w).new1 (w.heap.size) (by simp) s1 a1 n1 c1 33 (IsI k1 z) (IsI.gstb _ _) (h1)).new1 (w.heap.size + 1) (by simp) s2 a2 n2 c2 33 (IsI k2 z2) (IsI.gstb _ _) (h2.ext ((Ext.refl _).alloc _)))⟩
 clear h1 h2
 go_enter Tryz.func23, Tryz.ntmps23
 go_upto_region 1 with (fail)
 rw [← hW]
 clear hW
 refine rgs 3 [some 9, some 10, some 5] [IsI k1 z, IsV (.int .i64 ue), IsV (.int .i64 ue)] [] ?_ ?_
 ·refine Rc (ldI S 1 (w.heap.size) 0 (Od.lit 2) ld_Int) ?_
  refine Rc (cl1 (en Tryz.func63) (Od.lc (Φ := IsI k1 z) 0 9) (fun x0 w' hE d0 => (by have hh := rref_g d0 HK.out; rw [HE.out] at hh; exact hh))) ?_
  refine Rc (mv (Od.lc 1 10)) ?_
  exact RgAll.nil
 intro v W1 e1 hΦ _
 replace S := S.mono e1
 have v2 : v 2 = .int .i64 ue := hΦ 2 (by decide)
 simp only [layL, Act.put, uAx, u0x, u1x, Nat.reduceAdd]
 rw [v2]
 clear v2 hΦ e1
 refine wpList_nil ?_
 go_upto_region 2 with (fail)
 refine rgs 2 [some 11, some 12] [IsV (.int .i64 ue), IsV (.bool true)] [] ?_ ?_
 ·refine Rc (mv (Od.lit 5)) ?_
  refine Rc (bn (r := .bool true) (Od.loc 0 11) Od.con (hr := fun w => by have hx9 := HUB.out; go_simp)) ?_
  exact RgAll.nil
 intro v W2 e1 hΦ _
 replace S := S.mono e1
 have v1 : v 1 = .bool true := hΦ 1 (by decide)
 simp only [layL, Act.put, uAx, u0x, u1x, Nat.reduceAdd]
 rw [v1]
 clear v1 hΦ e1
 refine wpList_nil ?_
 go_upto_region 3 with (fail)
 refine rgs 2 [some 13, some 4] [IsV (.int .i64 ue), IsV (.int .i64 ue)] [] ?_ ?_
 ·refine Rc (mv (Od.lit 5)) ?_
  refine Rc (mv (Od.lc 0 13)) ?_
  exact RgAll.nil
 intro v W3 e1 hΦ _
 replace S := S.mono e1
 have v1 : v 1 = .int .i64 ue := hΦ 1 (by decide)
 simp only [layL, Act.put, uAx, u0x, u1x, Nat.reduceAdd]
 rw [v1]
 clear v1 hΦ e1
 refine wpList_nil ?_
 go_wp2_with fail
 exact bodyPost_ret (v := .int .i64 ue) (by simp [results, Tryz.results23, go_sem]) rfl (⟨_, rfl, S.ext, rfl⟩)

set_option maxRecDepth 100000 in
set_option maxHeartbeats 8000000 in
theorem unsuitable_e {k1 k2 : Nat} {z z2 ue : Int} {x y : Value} {w : World} (hx : IsI k1 z x w) (hy : IsI k2 z2 y w) (HK : Hid (k1 ≤ 131072)) (HE : Hid (dE z = ue)) (HUB : Hid ((ue != 0) = true)) : Calls Tryz.prog 39 #[x, y] w (Ret w (IsV (.int .i64 ue))) := by
 obtain ⟨s1, a1, n1, c1, rfl, h1⟩ := hx
 have h1 : IsI _ _ _ w := ⟨_, _, _, _, rfl, h1⟩
 obtain ⟨s2, a2, n2, c2, rfl, h2⟩ := hy
 have h2 : IsI _ _ _ w := ⟨_, _, _, _, rfl, h2⟩
 obtain ⟨W, hW, S⟩ : ∃ W, W = (w.alloc (.cells #[.bool s1, .slice a1 n1 c1] 33)).alloc (.cells #[.bool s2, .slice a2 n2 c2] 33) ∧ Sto w W [((w.heap.size + 1, 0), IsI k2 z2), ((w.heap.size, 0), IsI k1 z)] := ⟨_, rfl, (((Sto.start w).new1 (w.heap.size) (by simp) s1 a1 n1 c1 33 (IsI k1 z) (IsI.gstb _ _) (h1)).new1 (w.heap.size + 1) (by simp) s2 a2 n2 c2 33 (IsI k2 z2) (IsI.gstb _ _) (h2.ext ((Ext.refl _).alloc _)))⟩
 clear h1 h2
 go_enter Tryz.func39, Tryz.ntmps39
 go_upto_region 1 with (fail)
 rw [← hW]
 clear hW
 refine rgs 3 [some 9, some 10, some 5] [IsI k1 z, IsV (.int .i64 ue), IsV (.int .i64 ue)] [] ?_ ?_
 ·refine Rc (ldI S 1 (w.heap.size) 0 (Od.lit 2) ld_Int) ?_
  refine Rc (cl1 (en Tryz.func61) (Od.lc (Φ := IsI k1 z) 0 9) (fun x0 w' hE d0 => (by have hh := dref_g d0 HK.out; rw [HE.out] at hh; exact hh))) ?_
  refine Rc (mv (Od.lc 1 10)) ?_
  exact RgAll.nil
 intro v W1 e1 hΦ _
 replace S := S.mono e1
 have v2 : v 2 = .int .i64 ue := hΦ 2 (by decide)
 simp only [layL, Act.put, uAx, u0x, u1x, Nat.reduceAdd]
 rw [v2]
 clear v2 hΦ e1
 refine wpList_nil ?_
 go_upto_region 2 with (fail)
 refine rgs 2 [some 11, some 12] [IsV (.int .i64 ue), IsV (.bool true)] [] ?_ ?_
 ·refine Rc (mv (Od.lit 5)) ?_
  refine Rc (bn (r := .bool true) (Od.loc 0 11) Od.con (hr := fun w => by have hx9 := HUB.out; go_simp)) ?_
  exact RgAll.nil
 intro v W2 e1 hΦ _
 replace S := S.mono e1
 have v1 : v 1 = .bool true := hΦ 1 (by decide)
 simp only [layL, Act.put, uAx, u0x, u1x, Nat.reduceAdd]
 rw [v1]
 clear v1 hΦ e1
 refine wpList_nil ?_
 go_upto_region 3 with (fail)
 refine rgs 2 [some 13, some 4] [IsV (.int .i64 ue), IsV (.int .i64 ue)] [] ?_ ?_
 ·refine Rc (mv (Od.lit 5)) ?_
  refine Rc (mv (Od.lc 0 13)) ?_
  exact RgAll.nil
 intro v W3 e1 hΦ _
 replace S := S.mono e1
 have v1 : v 1 = .int .i64 ue := hΦ 1 (by decide)
 simp only [layL, Act.put, uAx, u0x, u1x, Nat.reduceAdd]
 rw [v1]
 clear v1 hΦ e1
 refine wpList_nil ?_
 go_wp2_with fail
 exact bodyPost_ret (v := .int .i64 ue) (by simp [results, Tryz.results39, go_sem]) rfl (⟨_, rfl, S.ext, rfl⟩)

set_option maxRecDepth 100000 in
set_option maxHeartbeats 8000000 in
theorem Total_x {k1 k2 : Nat} {z z2 ue : Int} {x y : Value} {w : World} (hx : IsI k1 z x w) (hy : IsI k2 z2 y w) (HUN : Hid (∀ (x y : Value) (w : World), IsI k1 z x w → IsI k2 z2 y w → Calls Tryz.prog 39 #[x, y] w (Ret w (IsV (.int .i64 ue))))) (HUB : Hid ((ue != 0) = true)) : Calls Tryz.prog 12 #[x, y] w (Ret w (IsT2 (IsV (.int .i64 0)) (IsV (.int .i64 ue)))) := by
 obtain ⟨s1, a1, n1, c1, rfl, h1⟩ := hx
 have h1 : IsI _ _ _ w := ⟨_, _, _, _, rfl, h1⟩
 obtain ⟨s2, a2, n2, c2, rfl, h2⟩ := hy
 have h2 : IsI _ _ _ w := ⟨_, _, _, _, rfl, h2⟩
 obtain ⟨W, hW, S⟩ : ∃ W, W = (w.alloc (.cells #[.bool s1, .slice a1 n1 c1] 33)).alloc (.cells #[.bool s2, .slice a2 n2 c2] 33) ∧ Sto w W [((w.heap.size + 1, 0), IsI k2 z2), ((w.heap.size, 0), IsI k1 z)] := ⟨_, rfl, (((Sto.start w).new1 (w.heap.size) (by simp) s1 a1 n1 c1 33 (IsI k1 z) (IsI.gstb _ _) (h1)).new1 (w.heap.size + 1) (by simp) s2 a2 n2 c2 33 (IsI k2 z2) (IsI.gstb _ _) (h2.ext ((Ext.refl _).alloc _)))⟩
 clear h1 h2
 go_enter Tryz.func12, Tryz.ntmps12
 go_upto_region 1 with (fail)
 rw [← hW]
 clear hW
 refine rgs 4 [some 14, some 15, some 16, some 6] [IsI k1 z, IsI k2 z2, IsV (.int .i64 ue), IsV (.int .i64 ue)] [] ?_ ?_
 ·refine Rc (ldI S 1 (w.heap.size) 0 (Od.lit 2) ld_Int) ?_
  refine Rc (ldI S 0 (w.heap.size + 1) 0 (Od.lit 3) ld_Int) ?_
  refine Rc (cl2 (en Tryz.func39) (Od.lc (Φ := IsI k1 z) 0 14) (Od.lc (Φ := IsI k2 z2) 1 15) (fun x0 x1 w' hE d0 d1 => HUN.out _ _ _ d0 d1)) ?_
  refine Rc (mv (Od.lc 2 16)) ?_
  exact RgAll.nil
 intro v W1 e1 hΦ _
 replace S := S.mono e1
 have v3 : v 3 = .int .i64 ue := hΦ 3 (by decide)
 simp only [layL, Act.put, uAx, u0x, u1x, Nat.reduceAdd]
 rw [v3]
 clear v3 hΦ e1
 refine wpList_nil ?_
 go_upto_region 2 with (fail)
 refine rgs 2 [some 17, some 18] [IsV (.int .i64 ue), IsV (.bool true)] [] ?_ ?_
 ·refine Rc (mv (Od.lit 6)) ?_
  refine Rc (bn (r := .bool true) (Od.loc 0 17) Od.con (hr := fun w => by have hx9 := HUB.out; go_simp)) ?_
  exact RgAll.nil
 intro v W2 e1 hΦ _
 replace S := S.mono e1
 have v1 : v 1 = .bool true := hΦ 1 (by decide)
 simp only [layL, Act.put, uAx, u0x, u1x, Nat.reduceAdd]
 rw [v1]
 clear v1 hΦ e1
 refine wpList_nil ?_
 go_upto_region 3 with (fail)
 refine rgs 3 [some 19, some 4, some 5] [IsV (.int .i64 ue), IsV (.int .i64 0), IsV (.int .i64 ue)] [] ?_ ?_
 ·refine Rc (mv (Od.lit 6)) ?_
  refine Rc (mv Od.con) ?_
  refine Rc (mv (Od.lc 0 19)) ?_
  exact RgAll.nil
 intro v W3 e1 hΦ _
 replace S := S.mono e1
 have v1 : v 1 = .int .i64 0 := hΦ 1 (by decide)
 have v2 : v 2 = .int .i64 ue := hΦ 2 (by decide)
 simp only [layL, Act.put, uAx, u0x, u1x, Nat.reduceAdd]
 rw [v1, v2]
 clear v1 v2 hΦ e1
 refine wpList_nil ?_
 go_wp2_with fail
 exact bodyPost_ret (v := .tuple #[.int .i64 0, .int .i64 ue]) (by simp [results, Tryz.results12, go_sem]) rfl (⟨_, rfl, S.ext, _, _, rfl, rfl, rfl⟩)

set_option maxRecDepth 100000 in
set_option maxHeartbeats 8000000 in
theorem Genus_x {k1 k2 : Nat} {z z2 ue : Int} {x y : Value} {w : World} (hx : IsI k1 z x w) (hy : IsI k2 z2 y w) (HUN : Hid (∀ (x y : Value) (w : World), IsI k1 z x w → IsI k2 z2 y w → Calls Tryz.prog 39 #[x, y] w (Ret w (IsV (.int .i64 ue))))) (HUB : Hid ((ue != 0) = true)) : Calls Tryz.prog 14 #[x, y] w (Ret w (IsT2 (IRx []) (IsV (.int .i64 ue)))) := by
 obtain ⟨s1, a1, n1, c1, rfl, h1⟩ := hx
 have h1 : IsI _ _ _ w := ⟨_, _, _, _, rfl, h1⟩
 obtain ⟨s2, a2, n2, c2, rfl, h2⟩ := hy
 have h2 : IsI _ _ _ w := ⟨_, _, _, _, rfl, h2⟩
 obtain ⟨W, hW, S⟩ : ∃ W, W = (w.alloc (.cells #[.bool s1, .slice a1 n1 c1] 33)).alloc (.cells #[.bool s2, .slice a2 n2 c2] 33) ∧ Sto w W [((w.heap.size + 1, 0), IsI k2 z2), ((w.heap.size, 0), IsI k1 z)] := ⟨_, rfl, (((Sto.start w).new1 (w.heap.size) (by simp) s1 a1 n1 c1 33 (IsI k1 z) (IsI.gstb _ _) (h1)).new1 (w.heap.size + 1) (by simp) s2 a2 n2 c2 33 (IsI k2 z2) (IsI.gstb _ _) (h2.ext ((Ext.refl _).alloc _)))⟩
 clear h1 h2
 go_enter Tryz.func14, Tryz.ntmps14
 go_upto_region 1 with (fail)
 rw [← hW]
 clear hW
 refine rgs 4 [some 13, some 14, some 15, some 6] [IsI k1 z, IsI k2 z2, IsV (.int .i64 ue), IsV (.int .i64 ue)] [] ?_ ?_
 ·refine Rc (ldI S 1 (w.heap.size) 0 (Od.lit 2) ld_Int) ?_
  refine Rc (ldI S 0 (w.heap.size + 1) 0 (Od.lit 3) ld_Int) ?_
  refine Rc (cl2 (en Tryz.func39) (Od.lc (Φ := IsI k1 z) 0 13) (Od.lc (Φ := IsI k2 z2) 1 14) (fun x0 x1 w' hE d0 d1 => HUN.out _ _ _ d0 d1)) ?_
  refine Rc (mv (Od.lc 2 15)) ?_
  exact RgAll.nil
 intro v W1 e1 hΦ _
 replace S := S.mono e1
 have v3 : v 3 = .int .i64 ue := hΦ 3 (by decide)
 simp only [layL, Act.put, uAx, u0x, u1x, Nat.reduceAdd]
 rw [v3]
 clear v3 hΦ e1
 refine wpList_nil ?_
 go_upto_region 2 with (fail)
 refine rgs 2 [some 16, some 17] [IsV (.int .i64 ue), IsV (.bool true)] [] ?_ ?_
 ·refine Rc (mv (Od.lit 6)) ?_
  refine Rc (bn (r := .bool true) (Od.loc 0 16) Od.con (hr := fun w => by have hx9 := HUB.out; go_simp)) ?_
  exact RgAll.nil
 intro v W2 e1 hΦ _
 replace S := S.mono e1
 have v1 : v 1 = .bool true := hΦ 1 (by decide)
 simp only [layL, Act.put, uAx, u0x, u1x, Nat.reduceAdd]
 rw [v1]
 clear v1 hΦ e1
 refine wpList_nil ?_
 go_upto_region 3 with (fail)
 refine rgs 3 [some 18, some 4, some 5] [IsV (.int .i64 ue), IsV (.slice none 0 0), IsV (.int .i64 ue)] [] ?_ ?_
 ·refine Rc (mv (Od.lit 6)) ?_
  refine Rc (mv Od.con) ?_
  refine Rc (mv (Od.lc 0 18)) ?_
  exact RgAll.nil
 intro v W3 e1 hΦ _
 replace S := S.mono e1
 have v1 : v 1 = .slice none 0 0 := hΦ 1 (by decide)
 have v2 : v 2 = .int .i64 ue := hΦ 2 (by decide)
 simp only [layL, Act.put, uAx, u0x, u1x, Nat.reduceAdd]
 rw [v1, v2]
 clear v1 v2 hΦ e1
 refine wpList_nil ?_
 go_wp2_with fail
 exact bodyPost_ret (v := .tuple #[.slice none 0 0, .int .i64 ue]) (by simp [results, Tryz.results14, go_sem]) rfl (⟨_, rfl, S.ext, ⟨_, _, rfl, ⟨0, Rwg.nil _ _ _ _⟩, rfl⟩⟩)

set_option maxRecDepth 100000 in
set_option maxHeartbeats 8000000 in
theorem rGenus_x {k1 k2 : Nat} {z z2 ue : Int} {x y : Value} {w : World} (hx : IsI k1 z x w) (hy : IsI k2 z2 y w) (HUN : Hid (∀ (x y : Value) (w : World), IsI k1 z x w → IsI k2 z2 y w → Calls Tryz.prog 23 #[x, y] w (Ret w (IsV (.int .i64 ue))))) (HUB : Hid ((ue != 0) = true)) : Calls Tryz.prog 15 #[x, y] w (Ret w (IsT2 (IRx []) (IsV (.int .i64 ue)))) := by
 obtain ⟨s1, a1, n1, c1, rfl, h1⟩ := hx
 have h1 : IsI _ _ _ w := ⟨_, _, _, _, rfl, h1⟩
 obtain ⟨s2, a2, n2, c2, rfl, h2⟩ := hy
 have h2 : IsI _ _ _ w := ⟨_, _, _, _, rfl, h2⟩
 obtain ⟨W, hW, S⟩ : ∃ W, W = (w.alloc (.cells #[.bool s1, .slice a1 n1 c1] 33)).alloc (.cells #[.bool s2, .slice a2 n2 c2] 33) ∧ Sto w W [((w.heap.size + 1, 0), IsI k2 z2), ((w.heap.size, 0), IsI k1 z)] := ⟨_, rfl, (((Sto.start w).new1 (w.heap.size) (by simp) s1 a1 n1 c1 33 (IsI k1 z) (IsI.gstb _ _) (h1)).new1 (w.heap.size + 1) (by simp) s2 a2 n2 c2 33 (IsI k2 z2) (IsI.gstb _ _) (h2.ext ((Ext.refl _).alloc _)))⟩
 clear h1 h2
 go_enter Tryz.func15, Tryz.ntmps15
 go_upto_region 1 with (fail)
 rw [← hW]
 clear hW
 refine rgs 4 [some 11, some 12, some 13, some 6] [IsI k1 z, IsI k2 z2, IsV (.int .i64 ue), IsV (.int .i64 ue)] [] ?_ ?_
 ·refine Rc (ldI S 1 (w.heap.size) 0 (Od.lit 2) ld_Int) ?_
  refine Rc (ldI S 0 (w.heap.size + 1) 0 (Od.lit 3) ld_Int) ?_
  refine Rc (cl2 (en Tryz.func23) (Od.lc (Φ := IsI k1 z) 0 11) (Od.lc (Φ := IsI k2 z2) 1 12) (fun x0 x1 w' hE d0 d1 => HUN.out _ _ _ d0 d1)) ?_
  refine Rc (mv (Od.lc 2 13)) ?_
  exact RgAll.nil
 intro v W1 e1 hΦ _
 replace S := S.mono e1
 have v3 : v 3 = .int .i64 ue := hΦ 3 (by decide)
 simp only [layL, Act.put, uAx, u0x, u1x, Nat.reduceAdd]
 rw [v3]
 clear v3 hΦ e1
 refine wpList_nil ?_
 go_upto_region 2 with (fail)
 refine rgs 2 [some 14, some 15] [IsV (.int .i64 ue), IsV (.bool true)] [] ?_ ?_
 ·refine Rc (mv (Od.lit 6)) ?_
  refine Rc (bn (r := .bool true) (Od.loc 0 14) Od.con (hr := fun w => by have hx9 := HUB.out; go_simp)) ?_
  exact RgAll.nil
 intro v W2 e1 hΦ _
 replace S := S.mono e1
 have v1 : v 1 = .bool true := hΦ 1 (by decide)
 simp only [layL, Act.put, uAx, u0x, u1x, Nat.reduceAdd]
 rw [v1]
 clear v1 hΦ e1
 refine wpList_nil ?_
 go_upto_region 3 with (fail)
 refine rgs 3 [some 16, some 4, some 5] [IsV (.int .i64 ue), IsV (.slice none 0 0), IsV (.int .i64 ue)] [] ?_ ?_
 ·refine Rc (mv (Od.lit 6)) ?_
  refine Rc (mv Od.con) ?_
  refine Rc (mv (Od.lc 0 16)) ?_
  exact RgAll.nil
 intro v W3 e1 hΦ _
 replace S := S.mono e1
 have v1 : v 1 = .slice none 0 0 := hΦ 1 (by decide)
 have v2 : v 2 = .int .i64 ue := hΦ 2 (by decide)
 simp only [layL, Act.put, uAx, u0x, u1x, Nat.reduceAdd]
 rw [v1, v2]
 clear v1 v2 hΦ e1
 refine wpList_nil ?_
 go_wp2_with fail
 exact bodyPost_ret (v := .tuple #[.slice none 0 0, .int .i64 ue]) (by simp [results, Tryz.results15, go_sem]) rfl (⟨_, rfl, S.ext, ⟨_, _, rfl, ⟨0, Rwg.nil _ _ _ _⟩, rfl⟩⟩)

end Go.Proofs.YtknffgdbdadpcaaGreatDoor
namespace Go.Proofs.YtknffgdbdadpcaaGreatDoor
open Go Go.RowKit
theorem Rwg.zero (w : World) {base : Nat} (hb : base ≤ w.heap.size) : Rwg 3 1 base (w.alloc (.cells #[] 3)) (.slice (some ⟨w.heap.size, 0, none⟩) 0 0) 0 [] := by
 refine ⟨by simp, .inr ⟨w.heap.size, 0, #[], rfl, hb, World.alloc_heap_new _ _, ?_, ?_, ?_, ?_⟩⟩
 all_goals simp
end Go.Proofs.YtknffgdbdadpcaaGreatDoor
