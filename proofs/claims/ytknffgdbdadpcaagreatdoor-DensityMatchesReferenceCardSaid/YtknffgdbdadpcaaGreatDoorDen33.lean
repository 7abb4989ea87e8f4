/-
 The reference's Kronecker, for a lower number above 0. (Printed by wip/gen/den33.py.)
-/
import Derived.Test.YtknffgdbdadpcaaGreatDoorDen23
import Derived.Test.YtknffgdbdadpcaaGreatDoorJac
namespace Go.Proofs.YtknffgdbdadpcaaGreatDoor
open Go Go.RowKit

set_option maxRecDepth 100000 in
set_option maxHeartbeats 4000000 in
theorem small_f {k1 : Nat} {z : Int} {x : Value} {w : World} (hx : IsI k1 z x w) (m : Nat) (l1 : k1 ≤ 67108864) (hm : 0 < m ∧ m ≤ 1000) : Calls Tryz.prog 91 #[x, .int .i64 ((m : Nat) : Int)] w (Ret w (IsV (.int .i64 (z % ((m : Nat) : Int))))) := by
 have hnn := Int.emod_nonneg z (show ((m : Nat) : Int) ≠ 0 by omega)
 have hlt := Int.emod_lt_of_pos z (show (0 : Int) < ((m : Nat) : Int) by omega)
 obtain ⟨r, hr⟩ : ∃ r : Nat, z % ((m : Nat) : Int) = ((r : Nat) : Int) := ⟨(z % ((m : Nat) : Int)).toNat, (Int.toNat_of_nonneg hnn).symm⟩
 rw [hr] at hlt ⊢
 have HR := hid hr
 have HM := hid hm
 have HK := hid l1
 have HRL := hid (show r < 1000 by omega)
 clear hnn hlt hr hm l1
 obtain ⟨s1, a1, n1, c1, rfl, h1⟩ := hx
 have h1 : IsI _ _ _ w := ⟨_, _, _, _, rfl, h1⟩
 obtain ⟨W, hW, S⟩ : ∃ W, W = w.alloc (.cells #[.bool s1, .slice a1 n1 c1] 33) ∧ Sto w W [((w.heap.size, 0), IsI k1 z)] := ⟨_, rfl, ((Sto.start w).new1 (w.heap.size) (by simp) s1 a1 n1 c1 33 (IsI k1 z) (IsI.gstb _ _) (h1))⟩
 clear h1
 go_enter Tryz.func91, Tryz.ntmps91
 go_upto_region 1 with (fail)
 rw [← hW]
 clear hW
 refine rg 10 [some 8, some 9, some 10, some 11, some 12, some 7, some 13, some 14, some 5, some 6] [IsI k1 z, IsV (.int .i64 ((m : Nat) : Int)), IsI 2 (((m : Nat) : Int)), IsI 2 (((r : Nat) : Int)), IsT2 (IsV (.int .i64 ((r : Nat) : Int))) (IsV (.bool true)), IsT2 (IsV (.int .i64 ((r : Nat) : Int))) (IsV (.bool true)), IsV (.int .i64 ((r : Nat) : Int)), IsV (.bool true), IsV (.int .i64 ((r : Nat) : Int)), IsV (.bool true)] [] 0 ?_ ?_
 ·refine Rc (ldI S 0 (w.heap.size) 0 (Od.lit 2) ld_Int) ?_
  refine Rc (mv (Od.lit 1)) ?_
  refine Rc (cl1 (en Tryz.func22) (Od.lc (Φ := IsV (.int .i64 ((m : Nat) : Int))) 1 9) (fun x0 w' hE d0 => by { obtain rfl : x0 = .int .i64 ((m : Nat) : Int) := d0; exact ROf_f _ ((m : Nat) : Int) (by have := HM.out; omega) (by have := HM.out; omega) })) ?_
  refine Rc (cl2 (en Tryz.func94) (Od.lc (Φ := IsI k1 z) 0 8) (Od.lc (Φ := IsI 2 (((m : Nat) : Int))) 2 10) (fun x0 x1 w' hE d0 d1 => Calls.mono (RMod_f d0 d1 HK.out (by decide) (by have := HM.out; omega)) fun _ _ h => h.eqz HR.out)) ?_
  refine Rc (cl1 (en Tryz.func47) (Od.lc (Φ := IsI 2 (((r : Nat) : Int))) 3 11) (fun x0 w' hE d0 => RLow_f d0 (by have := HRL.out; omega))) ?_
  refine Rc (mv (Od.lc 4 12)) ?_
  refine Rc (ex (Od.loc 5 7) t20) ?_
  refine Rc (ex (Od.loc 5 7) t21) ?_
  refine Rc (mv (Od.lc 6 13)) ?_
  refine Rc (mv (Od.lc 7 14)) ?_
  exact RgAll.nil
 intro v W1 e1 hΦ _
 replace S := S.mono e1
 have v8 : v 8 = .int .i64 ((r : Nat) : Int) := hΦ 8 (by decide)
 simp only [layL, Act.put, uAx, u0x, u1x, Nat.reduceAdd]
 rw [v8]
 clear v8 hΦ e1
 refine wpAny_done (by kernel_rfl) ?_ _
 go_upto_region 2 with (fail)
 refine rgs 2 [some 15, some 4] [IsV (.int .i64 ((r : Nat) : Int)), IsV (.int .i64 ((r : Nat) : Int))] [] ?_ ?_
 ·refine Rc (mv (Od.lit 5)) ?_
  refine Rc (mv (Od.lc 0 15)) ?_
  exact RgAll.nil
 intro v W2 e1 hΦ _
 replace S := S.mono e1
 have v1 : v 1 = .int .i64 ((r : Nat) : Int) := hΦ 1 (by decide)
 simp only [layL, Act.put, uAx, u0x, u1x, Nat.reduceAdd]
 rw [v1]
 clear v1 hΦ e1
 refine wpList_nil ?_
 go_wp2_with fail
 exact bodyPost_ret (v := .int .i64 ((r : Nat) : Int)) (by simp [results, Tryz.results91, go_sem]) rfl (⟨_, rfl, S.ext, rfl⟩)

set_option maxRecDepth 100000 in
set_option maxHeartbeats 4000000 in
theorem two_0 {k1 : Nat} {z r r2 : Int} {x : Value} {w : World} (hx : IsI k1 z x w) (HK : Hid (k1 ≤ 67108864)) (HR : Hid (z % 8 = r)) (H2 : Hid (r.tmod 2 = r2)) (HE : Hid ((r2 == 0) = true)) : Calls Tryz.prog 92 #[x] w (Ret w (IsV (.int .i64 0))) := by
 obtain ⟨s1, a1, n1, c1, rfl, h1⟩ := hx
 have h1 : IsI _ _ _ w := ⟨_, _, _, _, rfl, h1⟩
 obtain ⟨W, hW, S⟩ : ∃ W, W = w.alloc (.cells #[.bool s1, .slice a1 n1 c1] 33) ∧ Sto w W [((w.heap.size, 0), IsI k1 z)] := ⟨_, rfl, ((Sto.start w).new1 (w.heap.size) (by simp) s1 a1 n1 c1 33 (IsI k1 z) (IsI.gstb _ _) (h1))⟩
 clear h1
 go_enter Tryz.func92, Tryz.ntmps92
 go_upto_region 1 with (fail)
 rw [← hW]
 clear hW
 refine rgs 3 [some 4, some 5, some 3] [IsI k1 z, IsV (.int .i64 r), IsV (.int .i64 r)] [] ?_ ?_
 ·refine Rc (ldI S 0 (w.heap.size) 0 (Od.lit 1) ld_Int) ?_
  refine Rc (cl2 (en Tryz.func91) (Od.lc (Φ := IsI k1 z) 0 4) Od.con (fun x0 x1 w' hE d0 d1 => by { obtain rfl : x1 = .int .i64 8 := d1; exact (by have hh := small_f d0 8 HK.out (by decide); rw [show z % ((8 : Nat) : Int) = r from HR.out] at hh; exact hh) })) ?_
  refine Rc (mv (Od.lc 1 5)) ?_
  exact RgAll.nil
 intro v W1 e1 hΦ _
 replace S := S.mono e1
 have v2 : v 2 = .int .i64 r := hΦ 2 (by decide)
 simp only [layL, Act.put, uAx, u0x, u1x, Nat.reduceAdd]
 rw [v2]
 clear v2 hΦ e1
 refine wpList_nil ?_
 go_upto_region 2 with (fail)
 refine rgs 3 [some 6, some 7, some 8] [IsV (.int .i64 r), IsV (.int .i64 r2), IsV (.bool true)] [] ?_ ?_
 ·refine Rc (mv (Od.lit 3)) ?_
  refine Rc (bn (r := .int .i64 r2) (Od.loc 0 6) Od.con (hr := fun w => by have hx9 := H2.out; go_simp)) ?_
  refine Rc (bn (r := .bool true) (Od.loc 1 7) Od.con (hr := fun w => by have hx9 := HE.out; go_simp)) ?_
  exact RgAll.nil
 intro v W2 e1 hΦ _
 replace S := S.mono e1
 have v2 : v 2 = .bool true := hΦ 2 (by decide)
 simp only [layL, Act.put, uAx, u0x, u1x, Nat.reduceAdd]
 rw [v2]
 clear v2 hΦ e1
 refine wpList_nil ?_
 go_upto_region 3 with (fail)
 refine rgs 1 [some 2] [IsV (.int .i64 0)] [] ?_ ?_
 ·refine Rc (mv Od.con) ?_
  exact RgAll.nil
 intro v W3 e1 hΦ _
 replace S := S.mono e1
 have v0 : v 0 = .int .i64 0 := hΦ 0 (by decide)
 simp only [layL, Act.put, uAx, u0x, u1x]
 rw [v0]
 clear v0 hΦ e1
 refine wpList_nil ?_
 go_wp2_with fail
 exact bodyPost_ret (v := .int .i64 0) (by simp [results, Tryz.results92, go_sem]) rfl (⟨_, rfl, S.ext, rfl⟩)

set_option maxRecDepth 100000 in
set_option maxHeartbeats 4000000 in
theorem two_m {k1 : Nat} {z r r2 : Int} {x : Value} {w : World} (hx : IsI k1 z x w) (HK : Hid (k1 ≤ 67108864)) (HR : Hid (z % 8 = r)) (H2 : Hid (r.tmod 2 = r2)) (HE : Hid ((r2 == 0) = false)) (b3 b5 : Bool) (H3 : Hid ((r == 3) = b3)) (H5 : Hid ((r == 5) = b5)) (HO : Hid ((b3 || b5) = true)) : Calls Tryz.prog 92 #[x] w (Ret w (IsV (.int .i64 (-1)))) := by
 obtain ⟨s1, a1, n1, c1, rfl, h1⟩ := hx
 have h1 : IsI _ _ _ w := ⟨_, _, _, _, rfl, h1⟩
 obtain ⟨W, hW, S⟩ : ∃ W, W = w.alloc (.cells #[.bool s1, .slice a1 n1 c1] 33) ∧ Sto w W [((w.heap.size, 0), IsI k1 z)] := ⟨_, rfl, ((Sto.start w).new1 (w.heap.size) (by simp) s1 a1 n1 c1 33 (IsI k1 z) (IsI.gstb _ _) (h1))⟩
 clear h1
 go_enter Tryz.func92, Tryz.ntmps92
 go_upto_region 1 with (fail)
 rw [← hW]
 clear hW
 refine rgs 3 [some 4, some 5, some 3] [IsI k1 z, IsV (.int .i64 r), IsV (.int .i64 r)] [] ?_ ?_
 ·refine Rc (ldI S 0 (w.heap.size) 0 (Od.lit 1) ld_Int) ?_
  refine Rc (cl2 (en Tryz.func91) (Od.lc (Φ := IsI k1 z) 0 4) Od.con (fun x0 x1 w' hE d0 d1 => by { obtain rfl : x1 = .int .i64 8 := d1; exact (by have hh := small_f d0 8 HK.out (by decide); rw [show z % ((8 : Nat) : Int) = r from HR.out] at hh; exact hh) })) ?_
  refine Rc (mv (Od.lc 1 5)) ?_
  exact RgAll.nil
 intro v W1 e1 hΦ _
 replace S := S.mono e1
 have v2 : v 2 = .int .i64 r := hΦ 2 (by decide)
 simp only [layL, Act.put, uAx, u0x, u1x, Nat.reduceAdd]
 rw [v2]
 clear v2 hΦ e1
 refine wpList_nil ?_
 go_upto_region 2 with (fail)
 refine rgs 3 [some 6, some 7, some 8] [IsV (.int .i64 r), IsV (.int .i64 r2), IsV (.bool false)] [] ?_ ?_
 ·refine Rc (mv (Od.lit 3)) ?_
  refine Rc (bn (r := .int .i64 r2) (Od.loc 0 6) Od.con (hr := fun w => by have hx9 := H2.out; go_simp)) ?_
  refine Rc (bn (r := .bool false) (Od.loc 1 7) Od.con (hr := fun w => by have hx9 := HE.out; go_simp)) ?_
  exact RgAll.nil
 intro v W2 e1 hΦ _
 replace S := S.mono e1
 have v2 : v 2 = .bool false := hΦ 2 (by decide)
 simp only [layL, Act.put, uAx, u0x, u1x, Nat.reduceAdd]
 rw [v2]
 clear v2 hΦ e1
 refine wpList_nil ?_
 go_upto_region 4 with (fail)
 refine rgs 6 [some 9, some 10, some 11, some 12, some 13, some 14] [IsV (.int .i64 r), IsV (.bool b3), IsV (.bool b3), IsIf (!b3) (IsV (.int .i64 r)), IsIf (!b3) (IsV (.bool b5)), IsV (.bool true)] [] ?_ ?_ (hst := by repeat' (first | exact trivial | apply IsIf.stb | exact IsV.stb _ | exact IsI.stb _ _ | apply IsJ.stb | apply IsQ.stb | apply IsF.stb | apply IsT2.stb | apply IsT3.stb | exact IsBo.stb _ _ | apply And.intro))
 ·refine Rc (mv (Od.lit 3)) ?_
  refine Rc (bn (r := .bool b3) (Od.loc 0 9) Od.con (hr := fun w => by have hx9 := H3.out; go_simp)) ?_
  refine Rc (mv (Od.lc 1 10)) ?_
  refine RcB 2 11 b3 false (fun hb => by subst hb; exact mv (Od.lit 3)) ?_
  refine RcB 2 11 b3 false (fun hb => by subst hb; exact bn (r := .bool b5) (Od.loc 3 12) Od.con (hr := fun w => by have hx9 := H5.out; go_simp)) ?_
  refine Rc (pkO (b2 := b5) (Od.loc 2 11) (fun hb => by subst hb; exact Od.lc 4 13) (HO.out)) ?_
  exact RgAll.nil
 intro v W3 e1 hΦ _
 replace S := S.mono e1
 have v5 : v 5 = .bool true := hΦ 5 (by decide)
 simp only [layL, Act.put, uAx, u0x, u1x, Nat.reduceAdd]
 rw [v5]
 clear v5 hΦ e1
 refine wpList_nil ?_
 go_upto_region 5 with (fail)
 refine rgs 1 [some 2] [IsV (.int .i64 (-1))] [] ?_ ?_
 ·refine Rc (mv Od.con) ?_
  exact RgAll.nil
 intro v W4 e1 hΦ _
 replace S := S.mono e1
 have v0 : v 0 = .int .i64 (-1) := hΦ 0 (by decide)
 simp only [layL, Act.put, uAx, u0x, u1x]
 rw [v0]
 clear v0 hΦ e1
 refine wpList_nil ?_
 go_wp2_with fail
 exact bodyPost_ret (v := .int .i64 (-1)) (by simp [results, Tryz.results92, go_sem]) rfl (⟨_, rfl, S.ext, rfl⟩)

set_option maxRecDepth 100000 in
set_option maxHeartbeats 4000000 in
theorem two_p {k1 : Nat} {z r r2 : Int} {x : Value} {w : World} (hx : IsI k1 z x w) (HK : Hid (k1 ≤ 67108864)) (HR : Hid (z % 8 = r)) (H2 : Hid (r.tmod 2 = r2)) (HE : Hid ((r2 == 0) = false)) (b3 b5 : Bool) (H3 : Hid ((r == 3) = b3)) (H5 : Hid ((r == 5) = b5)) (HO : Hid ((b3 || b5) = false)) : Calls Tryz.prog 92 #[x] w (Ret w (IsV (.int .i64 1))) := by
 obtain ⟨s1, a1, n1, c1, rfl, h1⟩ := hx
 have h1 : IsI _ _ _ w := ⟨_, _, _, _, rfl, h1⟩
 obtain ⟨W, hW, S⟩ : ∃ W, W = w.alloc (.cells #[.bool s1, .slice a1 n1 c1] 33) ∧ Sto w W [((w.heap.size, 0), IsI k1 z)] := ⟨_, rfl, ((Sto.start w).new1 (w.heap.size) (by simp) s1 a1 n1 c1 33 (IsI k1 z) (IsI.gstb _ _) (h1))⟩
 clear h1
 go_enter Tryz.func92, Tryz.ntmps92
 go_upto_region 1 with (fail)
 rw [← hW]
 clear hW
 refine rgs 3 [some 4, some 5, some 3] [IsI k1 z, IsV (.int .i64 r), IsV (.int .i64 r)] [] ?_ ?_
 ·refine Rc (ldI S 0 (w.heap.size) 0 (Od.lit 1) ld_Int) ?_
  refine Rc (cl2 (en Tryz.func91) (Od.lc (Φ := IsI k1 z) 0 4) Od.con (fun x0 x1 w' hE d0 d1 => by { obtain rfl : x1 = .int .i64 8 := d1; exact (by have hh := small_f d0 8 HK.out (by decide); rw [show z % ((8 : Nat) : Int) = r from HR.out] at hh; exact hh) })) ?_
  refine Rc (mv (Od.lc 1 5)) ?_
  exact RgAll.nil
 intro v W1 e1 hΦ _
 replace S := S.mono e1
 have v2 : v 2 = .int .i64 r := hΦ 2 (by decide)
 simp only [layL, Act.put, uAx, u0x, u1x, Nat.reduceAdd]
 rw [v2]
 clear v2 hΦ e1
 refine wpList_nil ?_
 go_upto_region 2 with (fail)
 refine rgs 3 [some 6, some 7, some 8] [IsV (.int .i64 r), IsV (.int .i64 r2), IsV (.bool false)] [] ?_ ?_
 ·refine Rc (mv (Od.lit 3)) ?_
  refine Rc (bn (r := .int .i64 r2) (Od.loc 0 6) Od.con (hr := fun w => by have hx9 := H2.out; go_simp)) ?_
  refine Rc (bn (r := .bool false) (Od.loc 1 7) Od.con (hr := fun w => by have hx9 := HE.out; go_simp)) ?_
  exact RgAll.nil
 intro v W2 e1 hΦ _
 replace S := S.mono e1
 have v2 : v 2 = .bool false := hΦ 2 (by decide)
 simp only [layL, Act.put, uAx, u0x, u1x, Nat.reduceAdd]
 rw [v2]
 clear v2 hΦ e1
 refine wpList_nil ?_
 go_upto_region 4 with (fail)
 refine rgs 6 [some 9, some 10, some 11, some 12, some 13, some 14] [IsV (.int .i64 r), IsV (.bool b3), IsV (.bool b3), IsIf (!b3) (IsV (.int .i64 r)), IsIf (!b3) (IsV (.bool b5)), IsV (.bool false)] [] ?_ ?_ (hst := by repeat' (first | exact trivial | apply IsIf.stb | exact IsV.stb _ | exact IsI.stb _ _ | apply IsJ.stb | apply IsQ.stb | apply IsF.stb | apply IsT2.stb | apply IsT3.stb | exact IsBo.stb _ _ | apply And.intro))
 ·refine Rc (mv (Od.lit 3)) ?_
  refine Rc (bn (r := .bool b3) (Od.loc 0 9) Od.con (hr := fun w => by have hx9 := H3.out; go_simp)) ?_
  refine Rc (mv (Od.lc 1 10)) ?_
  refine RcB 2 11 b3 false (fun hb => by subst hb; exact mv (Od.lit 3)) ?_
  refine RcB 2 11 b3 false (fun hb => by subst hb; exact bn (r := .bool b5) (Od.loc 3 12) Od.con (hr := fun w => by have hx9 := H5.out; go_simp)) ?_
  refine Rc (pkO (b2 := b5) (Od.loc 2 11) (fun hb => by subst hb; exact Od.lc 4 13) (HO.out)) ?_
  exact RgAll.nil
 intro v W3 e1 hΦ _
 replace S := S.mono e1
 have v5 : v 5 = .bool false := hΦ 5 (by decide)
 simp only [layL, Act.put, uAx, u0x, u1x, Nat.reduceAdd]
 rw [v5]
 clear v5 hΦ e1
 refine wpList_nil ?_
 go_upto_region 6 with (fail)
 refine rgs 1 [some 2] [IsV (.int .i64 1)] [] ?_ ?_
 ·refine Rc (mv Od.con) ?_
  exact RgAll.nil
 intro v W4 e1 hΦ _
 replace S := S.mono e1
 have v0 : v 0 = .int .i64 1 := hΦ 0 (by decide)
 simp only [layL, Act.put, uAx, u0x, u1x]
 rw [v0]
 clear v0 hΦ e1
 refine wpList_nil ?_
 go_wp2_with fail
 exact bodyPost_ret (v := .int .i64 1) (by simp [results, Tryz.results92, go_sem]) rfl (⟨_, rfl, S.ext, rfl⟩)

theorem two_f {k1 : Nat} {z : Int} {x : Value} {w : World} (hx : IsI k1 z x w) (l1 : k1 ≤ 67108864) : Calls Tryz.prog 92 #[x] w (Ret w (IsV (.int .i64 (sg8 (z % 8).toNat)))) := by
 obtain ⟨r, hr⟩ : ∃ r, z % 8 = r := ⟨_, rfl⟩
 rw [hr]
 have hb : r = 0 ∨ r = 1 ∨ r = 2 ∨ r = 3 ∨ r = 4 ∨ r = 5 ∨ r = 6 ∨ r = 7 := by omega
 rcases hb with rfl | rfl | rfl | rfl | rfl | rfl | rfl | rfl
 ·exact two_0 hx (hid l1) (hid hr) (hid rfl) (hid (by decide))
 ·exact two_p hx (hid l1) (hid hr) (hid rfl) (hid (by decide)) _ _ (hid rfl) (hid rfl) (hid (by decide))
 ·exact two_0 hx (hid l1) (hid hr) (hid rfl) (hid (by decide))
 ·exact two_m hx (hid l1) (hid hr) (hid rfl) (hid (by decide)) _ _ (hid rfl) (hid rfl) (hid (by decide))
 ·exact two_0 hx (hid l1) (hid hr) (hid rfl) (hid (by decide))
 ·exact two_m hx (hid l1) (hid hr) (hid rfl) (hid (by decide)) _ _ (hid rfl) (hid rfl) (hid (by decide))
 ·exact two_0 hx (hid l1) (hid hr) (hid rfl) (hid (by decide))
 ·exact two_p hx (hid l1) (hid hr) (hid rfl) (hid (by decide)) _ _ (hid rfl) (hid rfl) (hid (by decide))

set_option maxRecDepth 100000 in
set_option maxHeartbeats 16000000 in
theorem RKron_a {k1 k2 n : Nat} {z rr : Int} {x y : Value} {w : World} (hx : IsI k1 z x w) (hy : IsI k2 ((n : Nat) : Int) y w) (HK : Hid (k1 ≤ 67108864 ∧ k2 ≤ 67108864)) (HN : Hid (0 < n ∧ n ≤ 4611686018427387904)) (HS1 : Hid (((n : Nat) : Int).sign = 1)) (HAB : Hid (((((n : Nat) : Int).natAbs : Nat) : Int) = ((n : Nat) : Int))) (HRR : Hid (kr z n = rr)) : Calls Tryz.prog 48 #[x, y] w (Ret w (IsV (.int .i64 rr))) := by
 obtain ⟨s1, a1, n1, c1, rfl, h1⟩ := hx
 have h1 : IsI _ _ _ w := ⟨_, _, _, _, rfl, h1⟩
 obtain ⟨s2, a2, n2, c2, rfl, h2⟩ := hy
 have h2 : IsI _ _ _ w := ⟨_, _, _, _, rfl, h2⟩
 obtain ⟨W, hW, S⟩ : ∃ W, W = (w.alloc (.cells #[.bool s1, .slice a1 n1 c1] 33)).alloc (.cells #[.bool s2, .slice a2 n2 c2] 33) ∧ Sto w W [((w.heap.size + 1, 0), IsI k2 (((n : Nat) : Int))), ((w.heap.size, 0), IsI k1 z)] := ⟨_, rfl, (((Sto.start w).new1 (w.heap.size) (by simp) s1 a1 n1 c1 33 (IsI k1 z) (IsI.gstb _ _) (h1)).new1 (w.heap.size + 1) (by simp) s2 a2 n2 c2 33 (IsI k2 (((n : Nat) : Int))) (IsI.gstb _ _) (h2.ext ((Ext.refl _).alloc _)))⟩
 clear h1 h2
 go_enter Tryz.func48, Tryz.ntmps48
 go_upto_region 1 with (fail)
 rw [← hW]
 clear hW
 refine rgs 3 [some 7, some 8, some 9] [IsI k2 (((n : Nat) : Int)), IsV (.int .i64 1), IsV (.bool false)] [] ?_ ?_
 ·refine Rc (ldI S 0 (w.heap.size + 1) 0 (Od.lit 3) ld_Int) ?_
  refine Rc (cl1 (en Tryz.func65) (Od.lc (Φ := IsI k2 (((n : Nat) : Int))) 0 7) (fun x0 w' hE d0 => Calls.mono (RSign_f d0) fun _ _ h => h.int HS1.out)) ?_
  refine Rc (bn (r := .bool false) (Od.loc 1 8) Od.con (hr := fun w => by go_simp)) ?_
  exact RgAll.nil
 intro v W1 e1 hΦ _
 replace S := S.mono e1
 have v2 : v 2 = .bool false := hΦ 2 (by decide)
 simp only [layL, Act.put, uAx, u0x, u1x, Nat.reduceAdd]
 rw [v2]
 clear v2 hΦ e1
 refine wpList_nil ?_
 go_upto_region 5 with (fail)
 refine rgs 1 [some 5] [IsV (.int .i64 1)] [] ?_ ?_
 ·refine Rc (mv Od.con) ?_
  exact RgAll.nil
 intro v W2 e1 hΦ _
 replace S := S.mono e1
 have v0 : v 0 = .int .i64 1 := hΦ 0 (by decide)
 simp only [layL, Act.put, uAx, u0x, u1x]
 rw [v0]
 clear v0 hΦ e1
 refine wpList_nil ?_
 go_upto_region 6 with (fail)
 refine rgs 8 [some 14, some 15, some 16, some 17, some 18, some 19, some 20, some 21] [IsI k2 (((n : Nat) : Int)), IsV (.int .i64 1), IsV (.bool false), IsV (.bool false), IsV (undef), IsV (undef), IsV (undef), IsV (.bool false)] [] ?_ ?_
 ·refine Rc (ldI S 0 (w.heap.size + 1) 0 (Od.lit 3) ld_Int) ?_
  refine Rc (cl1 (en Tryz.func65) (Od.lc (Φ := IsI k2 (((n : Nat) : Int))) 0 14) (fun x0 w' hE d0 => Calls.mono (RSign_f d0) fun _ _ h => h.int HS1.out)) ?_
  refine Rc (bn (r := .bool false) (Od.loc 1 15) Od.con (hr := fun w => by go_simp)) ?_
  refine Rc (mv (Od.lc 2 16)) ?_
  refine RcN 3 17 false ?_
  refine RcN 3 17 false ?_
  refine RcN 3 17 false ?_
  refine Rc (pk (Od.loc 3 17) Od.con) ?_
  exact RgAll.nil
 intro v W3 e1 hΦ _
 replace S := S.mono e1
 have v7 : v 7 = .bool false := hΦ 7 (by decide)
 simp only [layL, Act.put, uAx, u0x, u1x, Nat.reduceAdd]
 rw [v7]
 clear v7 hΦ e1
 refine wpList_nil ?_
 go_upto_region 8 with (fail)
 refine rgs 2 [some 22, some 23] [IsI k2 (((n : Nat) : Int)), IsI k2 (((n : Nat) : Int))] [] ?_ ?_
 ·refine Rc (ldI S 0 (w.heap.size + 1) 0 (Od.lit 3) ld_Int) ?_
  refine Rc (cl1 (en Tryz.func70) (Od.lc (Φ := IsI k2 (((n : Nat) : Int))) 0 22) (fun x0 w' hE d0 => Calls.mono (RAbs_f d0) fun _ _ h => h.eqz HAB.out)) ?_
  exact RgAll.nil
 intro v W4 e1 hΦ _
 replace S := S.mono e1
 have h23 := hΦ 1 (by decide)
 simp only [layL, Act.put, uAx, u0x, u1x, Nat.reduceAdd]
 clear hΦ e1
 try simp only [List.drop_succ_cons, List.drop_zero]
 (with_reducible refine stL ?_ (by rfl)); intro KK hKK; refine stI S 0 (w.heap.size + 1) 0 h23 st_Int (fun W5 S2 G2 => hKK _ _ ?_) rfl
 replace S := S2; clear S2 G2 hKK KK h23
 simp only [u0x] at S
 refine wpList_nil ?_
 go_wp2_with fail
 have S0 := hid S; clear S
 go_loopg [5] n (fun gk v5 wr => ∃ (m : Nat) (kk : Int), v5 = .int .i64 kk ∧ m = gk ∧ 0 < m ∧ m ≤ 4611686018427387904 ∧ (-1 ≤ kk ∧ kk ≤ 1) ∧ kk * kr z m = rr ∧ Hid (Sto w wr [((w.heap.size + 1, 0), IsI k2 (((m : Nat) : Int))), ((w.heap.size, 0), IsI k1 z)]))
 case atStart => exact ⟨n, 1, rfl, rfl, HN.out.1, HN.out.2, by decide, by rw [Int.one_mul]; exact HRR.out, S0⟩
 case round =>
  clear S0
  obtain ⟨m, kk, rfl, hgm, hm0, hmb, hkk, hr, S⟩ := hrel
  have S := S.out
  obtain ⟨q, hq⟩ : ∃ q, gk = q := ⟨_, rfl⟩
  rw [hq] at hgm
  rcases Nat.mod_two_eq_zero_or_one m with h2 | h2
  ·obtain ⟨m2, rfl⟩ : ∃ m2, m = 2 * m2 := ⟨m / 2, by omega⟩
   have HM2 := hid (show ((2 * m2 : Nat) : Int) % ((2 : Nat) : Int) = 0 by omega)
   obtain ⟨s, hs⟩ : ∃ s, sg8 (z % 8).toNat = s := ⟨_, rfl⟩
   rw [kr_even (by omega), hs, ← Int.mul_assoc] at hr
   have hsb := sg8_le (z % 8).toNat; rw [hs] at hsb
   obtain ⟨k3, hk3⟩ : ∃ k, kk * s = k := ⟨_, rfl⟩
   have hb3 : -1 ≤ k3 ∧ k3 ≤ 1 := by rw [← hk3, ← hs]; exact mul_sg kk _ hkk
   rw [hk3] at hr
   have HS := hid hs; have HWR := hid (show IntKind.i64.wrap (kk * s) = k3 by rw [hk3]; exact wrapC_small (by omega) (by omega))
   have HDV := hid (show ((2 * m2 : Nat) : Int) / 2 = ((m2 : Nat) : Int) by omega)
   have HG := hid (show m2 < q ∧ 0 < m2 ∧ m2 ≤ 4611686018427387904 by omega)
   have HR3 := hid hr; have HB3 := hid hb3; have HQ := hid hq
   clear hr hb3 hk3 hs hsb hkk hgm hm0 hmb h2 hq
   go_upto_region 9 with (fail)
   refine rgs 3 [some 24, some 25, some 26] [IsI k2 (((2 * m2 : Nat) : Int)), IsV (.int .i64 0), IsV (.bool true)] [] ?_ ?_
   ·refine Rc (ldI S 0 (w.heap.size + 1) 0 (Od.lit 3) ld_Int) ?_
    refine Rc (cl2 (en Tryz.func91) (Od.lc (Φ := IsI k2 (((2 * m2 : Nat) : Int))) 0 24) Od.con (fun x0 x1 w' hE d0 d1 => by { obtain rfl : x1 = .int .i64 2 := d1; exact (by have hh := small_f d0 2 HK.out.2 (by decide); rw [show _ = _ from HM2.out] at hh; exact hh) })) ?_
    refine Rc (bn (r := .bool true) (Od.loc 1 25) Od.con (hr := fun w => by go_simp)) ?_
    exact RgAll.nil
   intro v W6 e1 hΦ _
   replace S := S.mono e1
   have v2 : v 2 = .bool true := hΦ 2 (by decide)
   simp only [layL, Act.put, uAx, u0x, u1x, Nat.reduceAdd]
   rw [v2]
   clear v2 hΦ e1
   refine wpList_nil ?_
   go_upto_region 10 with (fail)
   refine rgs 4 [some 27, some 28, some 29, some 30] [IsV (.int .i64 kk), IsI k1 z, IsV (.int .i64 s), IsV (.int .i64 k3)] [] ?_ ?_
   ·refine Rc (mv (Od.lit 5)) ?_
    refine Rc (ldI S 1 (w.heap.size) 0 (Od.lit 2) ld_Int) ?_
    refine Rc (cl1 (en Tryz.func92) (Od.lc (Φ := IsI k1 z) 1 28) (fun x0 w' hE d0 => (by have hh := two_f d0 HK.out.1; rw [show _ = _ from HS.out] at hh; exact hh))) ?_
    refine Rc (bn (r := .int .i64 k3) (Od.loc 0 27) (Od.loc 2 29) (hr := fun w => by have hx9 := HWR.out; go_simp)) ?_
    exact RgAll.nil
   intro v W7 e1 hΦ _
   replace S := S.mono e1
   have v3 : v 3 = .int .i64 k3 := hΦ 3 (by decide)
   simp only [layL, Act.put, uAx, u0x, u1x, Nat.reduceAdd]
   rw [v3]
   clear v3 hΦ e1
   refine wpList_step fun K hK => ?_; go_simp; refine hK _ _ ?_; clear hK K
   refine wpList_nil ?_
   go_upto_region 11 with (fail)
   refine rg 3 [some 31, some 32, some 33] [IsI k2 (((2 * m2 : Nat) : Int)), IsI 2 2, IsI k2 (((m2 : Nat) : Int))] [] 1 ?_ ?_
   ·refine Rc (ldI S 0 (w.heap.size + 1) 0 (Od.lit 3) ld_Int) ?_
    refine Rc (cl1 (en Tryz.func22) Od.con (fun x0 w' hE d0 => by { obtain rfl : x0 = .int .i64 2 := d0; exact ROf_f _ 2 (by decide) (by decide) })) ?_
    refine Rc (cl2 (en Tryz.func93) (Od.lc (Φ := IsI k2 (((2 * m2 : Nat) : Int))) 0 31) (Od.lc (Φ := IsI 2 2) 1 32) (fun x0 x1 w' hE d0 d1 => Calls.mono (RDiv_f d0 d1 HK.out.2 (by decide) (by decide)) fun _ _ h => h.eqz HDV.out)) ?_
    exact RgAll.nil
   intro v W8 e1 hΦ _
   replace S := S.mono e1
   have h33 := hΦ 2 (by decide)
   simp only [layL, Act.put, uAx, u0x, u1x, Nat.reduceAdd]
   clear hΦ e1
   refine stA 3 (h := fun KK hKK => stI S 0 (w.heap.size + 1) 0 h33 st_Int (fun W9 S2 G2 => hKK _ _ ?_) rfl)
   replace S := S2; clear S2 G2 hKK KK h33
   simp only [u0x] at S
   refine wpAny_done (by kernel_rfl) ?_ _
   go_upto_region 12 with (fail)
   by_cases hk0 : k3 = 0
   ·have HX := hid (show (k3 == 0) = true by rw [hk0]; rfl)
    have HR0 := hid (show rr = 0 by rw [← HR3.out, hk0, Int.zero_mul])
    clear hk0
    refine rgs 2 [some 34, some 35] [IsV (.int .i64 k3), IsV (.bool true)] [] ?_ ?_
    ·refine Rc (mv (Od.lit 5)) ?_
     refine Rc (bn (r := .bool true) (Od.loc 0 34) Od.con (hr := fun w => by have hx9 := HX.out; go_simp)) ?_
     exact RgAll.nil
    intro v W10 e1 hΦ _
    replace S := S.mono e1
    have v1 : v 1 = .bool true := hΦ 1 (by decide)
    simp only [layL, Act.put, uAx, u0x, u1x, Nat.reduceAdd]
    rw [v1]
    clear v1 hΦ e1
    refine wpList_nil ?_
    go_upto_region 13 with (fail)
    refine rgs 1 [some 4] [IsV (.int .i64 0)] [] ?_ ?_
    ·refine Rc (mv Od.con) ?_
     exact RgAll.nil
    intro v W11 e1 hΦ _
    replace S := S.mono e1
    have v0 : v 0 = .int .i64 0 := hΦ 0 (by decide)
    simp only [layL, Act.put, uAx, u0x, u1x]
    rw [v0]
    clear v0 hΦ e1
    refine wpList_nil ?_
    go_wp2_with fail
    exact bodyPost_ret (v := .int .i64 0) (by simp [results, Tryz.results48, go_sem]) rfl (⟨_, rfl, S.ext, HR0.out ▸ rfl⟩)
   ·have HX := hid (show (k3 == 0) = false from beq_eq_false_iff_ne.2 hk0)
    clear hk0
    refine rgs 2 [some 34, some 35] [IsV (.int .i64 k3), IsV (.bool false)] [] ?_ ?_
    ·refine Rc (mv (Od.lit 5)) ?_
     refine Rc (bn (r := .bool false) (Od.loc 0 34) Od.con (hr := fun w => by have hx9 := HX.out; go_simp)) ?_
     exact RgAll.nil
    intro v W12 e1 hΦ _
    replace S := S.mono e1
    have v1 : v 1 = .bool false := hΦ 1 (by decide)
    simp only [layL, Act.put, uAx, u0x, u1x, Nat.reduceAdd]
    rw [v1]
    clear v1 hΦ e1
    refine wpList_nil ?_
    have S' := hid S; clear S
    go_wp2_with fail
    go_roundg m2
    case measure => have := HG.out; have := HQ.out; omega
    case rel => exact ⟨m2, k3, rfl, rfl, HG.out.2.1, HG.out.2.2, HB3.out, HR3.out, S'⟩
  ·have HM2 := hid (show ((m : Nat) : Int) % ((2 : Nat) : Int) = 1 by omega)
   rw [kr_odd h2] at hr
   have hmz : ((m : Nat) : Int) ≠ 0 := by omega
   have hnn := Int.emod_nonneg z hmz; have hlt := Int.emod_lt_of_pos z (show (0 : Int) < ((m : Nat) : Int) by omega)
   obtain ⟨a0, ha0⟩ : ∃ a, (z % ((m : Nat) : Int)).toNat = a := ⟨_, rfl⟩
   rw [ha0] at hr
   have HA0 := hid (show z % ((m : Nat) : Int) = ((a0 : Nat) : Int) by rw [← ha0, Int.toNat_of_nonneg hnn])
   have hr2 : gi a0 m (kk * GS a0 m) = rr := by rw [← hr]; unfold gi; cases Nat.beq (Nat.gcd a0 m) 1 <;> simp
   have HI := hid (show a0 ≤ 4611686018427387904 ∧ m % 2 = 1 ∧ m ≤ 4611686018427387904 ∧ (-1 ≤ kk ∧ kk ≤ 1) ∧ gi a0 m (kk * GS a0 m) = rr from ⟨by omega, h2, hmb, hkk, hr2⟩)
   have HMZ := hid hmz
   clear hr hr2 hmz hnn hlt ha0 hgm hm0 hmb hkk hq h2
   go_upto_region 9 with (fail)
   refine rgs 3 [some 24, some 25, some 26] [IsI k2 (((m : Nat) : Int)), IsV (.int .i64 1), IsV (.bool false)] [] ?_ ?_
   ·refine Rc (ldI S 0 (w.heap.size + 1) 0 (Od.lit 3) ld_Int) ?_
    refine Rc (cl2 (en Tryz.func91) (Od.lc (Φ := IsI k2 (((m : Nat) : Int))) 0 24) Od.con (fun x0 x1 w' hE d0 d1 => by { obtain rfl : x1 = .int .i64 2 := d1; exact (by have hh := small_f d0 2 HK.out.2 (by decide); rw [show _ = _ from HM2.out] at hh; exact hh) })) ?_
    refine Rc (bn (r := .bool false) (Od.loc 1 25) Od.con (hr := fun w => by go_simp)) ?_
    exact RgAll.nil
   intro v W13 e1 hΦ _
   replace S := S.mono e1
   have v2 : v 2 = .bool false := hΦ 2 (by decide)
   simp only [layL, Act.put, uAx, u0x, u1x, Nat.reduceAdd]
   rw [v2]
   clear v2 hΦ e1
   refine wpList_nil ?_
   go_upto_region 14 with (fail)
   refine rgs 3 [some 36, some 37, some 38] [IsI k1 z, IsI k2 (((m : Nat) : Int)), IsI k2 (((a0 : Nat) : Int))] [] ?_ ?_
   ·refine Rc (ldI S 1 (w.heap.size) 0 (Od.lit 2) ld_Int) ?_
    refine Rc (ldI S 0 (w.heap.size + 1) 0 (Od.lit 3) ld_Int) ?_
    refine Rc (cl2 (en Tryz.func94) (Od.lc (Φ := IsI k1 z) 0 36) (Od.lc (Φ := IsI k2 (((m : Nat) : Int))) 1 37) (fun x0 x1 w' hE d0 d1 => Calls.mono (RMod_f d0 d1 HK.out.1 HK.out.2 HMZ.out) fun _ _ h => h.eqz HA0.out)) ?_
    exact RgAll.nil
   intro v W14 e1 hΦ _
   replace S := S.mono e1
   have h38 := hΦ 2 (by decide)
   simp only [layL, Act.put, uAx, u0x, u1x, Nat.reduceAdd]
   clear hΦ e1
   try simp only [List.drop_succ_cons, List.drop_zero]
   (with_reducible refine stL ?_ (by rfl)); intro KK hKK; refine stI S 1 (w.heap.size) 0 h38 st_Int (fun W15 S2 G2 => hKK _ _ ?_) rfl
   replace S := S2; clear S2 G2 hKK KK h38
   simp only [u0x, u1x] at S
   refine wpList_nil ?_
   go_wp2_with fail
   have S0 := hid S; clear S
   go_loopg [5] a0 (fun gk v5 wr => ∃ (a nn : Nat) (kk : Int), v5 = .int .i64 kk ∧ a = gk ∧ a ≤ 4611686018427387904 ∧ nn % 2 = 1 ∧ nn ≤ 4611686018427387904 ∧ (-1 ≤ kk ∧ kk ≤ 1) ∧ gi a nn (kk * GS a nn) = rr ∧ Hid (Sto w wr [((w.heap.size + 1, 0), IsI k2 (((nn : Nat) : Int))), ((w.heap.size, 0), IsI k2 (((a : Nat) : Int)))]))
   case atStart => exact ⟨a0, m, kk, rfl, rfl, HI.out.1, HI.out.2.1, HI.out.2.2.1, HI.out.2.2.2.1, HI.out.2.2.2.2, S0⟩
   case round =>
    clear S0 HI
    obtain ⟨a, nn, kk, rfl, hga, hab, hno, hnb, hkk, hr, S⟩ := hrel
    have S := S.out
    obtain ⟨q, hq⟩ : ∃ q, gk = q := ⟨_, rfl⟩
    rw [hq] at hga
    rcases Nat.eq_zero_or_pos a with ha | ha
    ·subst ha
     rw [kv_end] at hr
     have HS0 := hid (show (((0 : Nat) : Nat) : Int).sign = 0 from rfl)
     by_cases h1 : nn = 1
     ·have HONE := hid (show decide (((nn : Nat) : Int) = 1) = true from decide_eq_true (by omega))
      rw [if_pos h1] at hr
      have HRR := hid hr
      clear hr hga hab hno hnb hkk hq h1
      go_upto_region 15 with (fail)
      refine rgs 3 [some 39, some 40, some 41] [IsI k2 (((0 : Nat) : Int)), IsV (.int .i64 0), IsV (.bool false)] [] ?_ ?_
      ·refine Rc (ldI S 1 (w.heap.size) 0 (Od.lit 2) ld_Int) ?_
       refine Rc (cl1 (en Tryz.func65) (Od.lc (Φ := IsI k2 (((0 : Nat) : Int))) 0 39) (fun x0 w' hE d0 => Calls.mono (RSign_f d0) fun _ _ h => h.int HS0.out)) ?_
       refine Rc (bn (r := .bool false) (Od.loc 1 40) Od.con (hr := fun w => by go_simp)) ?_
       exact RgAll.nil
      intro v W16 e1 hΦ _
      replace S := S.mono e1
      have v2 : v 2 = .bool false := hΦ 2 (by decide)
      simp only [layL, Act.put, uAx, u0x, u1x, Nat.reduceAdd]
      rw [v2]
      clear v2 hΦ e1
      refine wpList_nil ?_
      go_upto_region 24 with (fail)
      refine rg 4 [some 67, some 68, some 69, some 70] [IsI k2 (((nn : Nat) : Int)), IsI 2 1, IsV (.bool true), IsV (.bool false)] [] 0 ?_ ?_
      ·refine Rc (ldI S 0 (w.heap.size + 1) 0 (Od.lit 3) ld_Int) ?_
       refine Rc (cl1 (en Tryz.func22) Od.con (fun x0 w' hE d0 => by { obtain rfl : x0 = .int .i64 1 := d0; exact ROf_f _ 1 (by decide) (by decide) })) ?_
       refine Rc (cl2 (en Tryz.func26) (Od.lc (Φ := IsI k2 (((nn : Nat) : Int))) 0 67) (Od.lc (Φ := IsI 2 1) 1 68) (fun x0 x1 w' hE d0 d1 => (by have hh := Same_f d0 d1 (by have := HK.out.2; omega); rw [HONE.out] at hh; exact hh))) ?_
       refine Rc (nt (Od.loc 2 69)) ?_
       exact RgAll.nil
      intro v W17 e1 hΦ _
      replace S := S.mono e1
      have v3 : v 3 = .bool false := hΦ 3 (by decide)
      simp only [layL, Act.put, uAx, u0x, u1x, Nat.reduceAdd]
      rw [v3]
      clear v3 hΦ e1
      refine wpAny_done (by kernel_rfl) ?_ _
      go_upto_region 26 with (fail)
      refine rgs 2 [some 71, some 4] [IsV (.int .i64 kk), IsV (.int .i64 kk)] [] ?_ ?_
      ·refine Rc (mv (Od.lit 5)) ?_
       refine Rc (mv (Od.lc 0 71)) ?_
       exact RgAll.nil
      intro v W18 e1 hΦ _
      replace S := S.mono e1
      have v1 : v 1 = .int .i64 kk := hΦ 1 (by decide)
      simp only [layL, Act.put, uAx, u0x, u1x, Nat.reduceAdd]
      rw [v1]
      clear v1 hΦ e1
      refine wpList_nil ?_
      go_wp2_with fail
      exact bodyPost_ret (v := .int .i64 kk) (by simp [results, Tryz.results48, go_sem]) rfl (⟨_, rfl, S.ext, HRR.out ▸ rfl⟩)
     ·have HONE := hid (show decide (((nn : Nat) : Int) = 1) = false from decide_eq_false (by omega))
      rw [if_neg h1] at hr
      have HRR := hid hr
      clear hr hga hab hno hnb hkk hq h1
      go_upto_region 15 with (fail)
      refine rgs 3 [some 39, some 40, some 41] [IsI k2 (((0 : Nat) : Int)), IsV (.int .i64 0), IsV (.bool false)] [] ?_ ?_
      ·refine Rc (ldI S 1 (w.heap.size) 0 (Od.lit 2) ld_Int) ?_
       refine Rc (cl1 (en Tryz.func65) (Od.lc (Φ := IsI k2 (((0 : Nat) : Int))) 0 39) (fun x0 w' hE d0 => Calls.mono (RSign_f d0) fun _ _ h => h.int HS0.out)) ?_
       refine Rc (bn (r := .bool false) (Od.loc 1 40) Od.con (hr := fun w => by go_simp)) ?_
       exact RgAll.nil
      intro v W19 e1 hΦ _
      replace S := S.mono e1
      have v2 : v 2 = .bool false := hΦ 2 (by decide)
      simp only [layL, Act.put, uAx, u0x, u1x, Nat.reduceAdd]
      rw [v2]
      clear v2 hΦ e1
      refine wpList_nil ?_
      go_upto_region 24 with (fail)
      refine rg 4 [some 67, some 68, some 69, some 70] [IsI k2 (((nn : Nat) : Int)), IsI 2 1, IsV (.bool false), IsV (.bool true)] [] 0 ?_ ?_
      ·refine Rc (ldI S 0 (w.heap.size + 1) 0 (Od.lit 3) ld_Int) ?_
       refine Rc (cl1 (en Tryz.func22) Od.con (fun x0 w' hE d0 => by { obtain rfl : x0 = .int .i64 1 := d0; exact ROf_f _ 1 (by decide) (by decide) })) ?_
       refine Rc (cl2 (en Tryz.func26) (Od.lc (Φ := IsI k2 (((nn : Nat) : Int))) 0 67) (Od.lc (Φ := IsI 2 1) 1 68) (fun x0 x1 w' hE d0 d1 => (by have hh := Same_f d0 d1 (by have := HK.out.2; omega); rw [HONE.out] at hh; exact hh))) ?_
       refine Rc (nt (Od.loc 2 69)) ?_
       exact RgAll.nil
      intro v W20 e1 hΦ _
      replace S := S.mono e1
      have v3 : v 3 = .bool true := hΦ 3 (by decide)
      simp only [layL, Act.put, uAx, u0x, u1x, Nat.reduceAdd]
      rw [v3]
      clear v3 hΦ e1
      refine wpAny_done (by kernel_rfl) ?_ _
      go_upto_region 25 with (fail)
      refine rgs 1 [some 4] [IsV (.int .i64 0)] [] ?_ ?_
      ·refine Rc (mv Od.con) ?_
       exact RgAll.nil
      intro v W21 e1 hΦ _
      replace S := S.mono e1
      have v0 : v 0 = .int .i64 0 := hΦ 0 (by decide)
      simp only [layL, Act.put, uAx, u0x, u1x]
      rw [v0]
      clear v0 hΦ e1
      refine wpList_nil ?_
      go_wp2_with fail
      exact bodyPost_ret (v := .int .i64 0) (by simp [results, Tryz.results48, go_sem]) rfl (⟨_, rfl, S.ext, HRR.out ▸ rfl⟩)
    ·have HS1 := hid (show ((a : Nat) : Int).sign = 1 from Int.sign_eq_one_of_pos (by omega))
     have HO := hid (show a = q ∧ gk = q ∧ nn % 2 = 1 ∧ nn ≤ 4611686018427387904 from ⟨hga, hq, hno, hnb⟩)
     have HI := hid (show 0 < a ∧ a ≤ 4611686018427387904 ∧ (-1 ≤ kk ∧ kk ≤ 1) ∧ gi a nn (kk * GS a nn) = rr from ⟨ha, hab, hkk, hr⟩)
     clear ha hga hab hno hnb hkk hr hq
     go_upto_region 15 with (fail)
     refine rgs 3 [some 39, some 40, some 41] [IsI k2 (((a : Nat) : Int)), IsV (.int .i64 1), IsV (.bool true)] [] ?_ ?_
     ·refine Rc (ldI S 1 (w.heap.size) 0 (Od.lit 2) ld_Int) ?_
      refine Rc (cl1 (en Tryz.func65) (Od.lc (Φ := IsI k2 (((a : Nat) : Int))) 0 39) (fun x0 w' hE d0 => Calls.mono (RSign_f d0) fun _ _ h => h.int HS1.out)) ?_
      refine Rc (bn (r := .bool true) (Od.loc 1 40) Od.con (hr := fun w => by go_simp)) ?_
      exact RgAll.nil
     intro v W22 e1 hΦ _
     replace S := S.mono e1
     have v2 : v 2 = .bool true := hΦ 2 (by decide)
     simp only [layL, Act.put, uAx, u0x, u1x, Nat.reduceAdd]
     rw [v2]
     clear v2 hΦ e1
     refine wpList_nil ?_
     go_wp2_with fail
     have S0 := hid S; clear S
     go_loopg [5] a (fun gk3 v5 wr => ∃ (b : Nat) (kk : Int), v5 = .int .i64 kk ∧ b = gk3 ∧ 0 < b ∧ b ≤ a ∧ (-1 ≤ kk ∧ kk ≤ 1) ∧ gi b nn (kk * GS b nn) = rr ∧ Hid (Sto w wr [((w.heap.size + 1, 0), IsI k2 (((nn : Nat) : Int))), ((w.heap.size, 0), IsI k2 (((b : Nat) : Int)))]))
     case atStart => exact ⟨a, kk, rfl, rfl, HI.out.1, Nat.le_refl _, HI.out.2.2.1, HI.out.2.2.2, S0⟩
     case round =>
      clear S0
      obtain ⟨b, kk, rfl, hgb, hb0, hba, hkk, hr, S⟩ := hrel
      have S := S.out
      obtain ⟨q3, hq3⟩ : ∃ q, gk = q := ⟨_, rfl⟩
      rw [hq3] at hgb
      rcases Nat.mod_two_eq_zero_or_one b with h2 | h2
      ·obtain ⟨b2, rfl⟩ : ∃ b2, b = 2 * b2 := ⟨b / 2, by omega⟩
       have HM2 := hid (show ((2 * b2 : Nat) : Int) % ((2 : Nat) : Int) = 0 by omega)
       rw [kv_half HO.out.2.2.1] at hr
       obtain ⟨s, hs⟩ : ∃ s, sg8 (nn % 8) = s := ⟨_, rfl⟩
       have hsb := sg8_le (nn % 8); rw [hs] at hsb hr
       obtain ⟨k3, hk3⟩ : ∃ k, kk * s = k := ⟨_, rfl⟩
       have hb3 : -1 ≤ k3 ∧ k3 ≤ 1 := by rw [← hk3, ← hs]; exact mul_sg kk _ hkk
       rw [hk3] at hr
       have HS := hid (show sg8 (((nn : Nat) : Int) % 8).toNat = s by rw [← hs, show (((nn : Nat) : Int) % 8).toNat = nn % 8 by omega]); have HWR := hid (show IntKind.i64.wrap (kk * s) = k3 by rw [hk3]; exact wrapC_small (by omega) (by omega))
       have HDV := hid (show ((2 * b2 : Nat) : Int) / 2 = ((b2 : Nat) : Int) by omega)
       have HG := hid (show b2 < q3 ∧ 0 < b2 ∧ b2 ≤ a by omega)
       have HR3 := hid hr; have HB3 := hid hb3; have HQ := hid hq3
       clear hr hb3 hk3 hs hsb hkk hgb hb0 hba h2 hq3
       go_upto_region 16 with (fail)
       refine rgs 3 [some 42, some 43, some 44] [IsI k2 (((2 * b2 : Nat) : Int)), IsV (.int .i64 0), IsV (.bool true)] [] ?_ ?_
       ·refine Rc (ldI S 1 (w.heap.size) 0 (Od.lit 2) ld_Int) ?_
        refine Rc (cl2 (en Tryz.func91) (Od.lc (Φ := IsI k2 (((2 * b2 : Nat) : Int))) 0 42) Od.con (fun x0 x1 w' hE d0 d1 => by { obtain rfl : x1 = .int .i64 2 := d1; exact (by have hh := small_f d0 2 HK.out.2 (by decide); rw [show _ = _ from HM2.out] at hh; exact hh) })) ?_
        refine Rc (bn (r := .bool true) (Od.loc 1 43) Od.con (hr := fun w => by go_simp)) ?_
        exact RgAll.nil
       intro v W23 e1 hΦ _
       replace S := S.mono e1
       have v2 : v 2 = .bool true := hΦ 2 (by decide)
       simp only [layL, Act.put, uAx, u0x, u1x, Nat.reduceAdd]
       rw [v2]
       clear v2 hΦ e1
       refine wpList_nil ?_
       go_upto_region 17 with (fail)
       refine rg 3 [some 45, some 46, some 47] [IsI k2 (((2 * b2 : Nat) : Int)), IsI 2 2, IsI k2 (((b2 : Nat) : Int))] [] 1 ?_ ?_
       ·refine Rc (ldI S 1 (w.heap.size) 0 (Od.lit 2) ld_Int) ?_
        refine Rc (cl1 (en Tryz.func22) Od.con (fun x0 w' hE d0 => by { obtain rfl : x0 = .int .i64 2 := d0; exact ROf_f _ 2 (by decide) (by decide) })) ?_
        refine Rc (cl2 (en Tryz.func93) (Od.lc (Φ := IsI k2 (((2 * b2 : Nat) : Int))) 0 45) (Od.lc (Φ := IsI 2 2) 1 46) (fun x0 x1 w' hE d0 d1 => Calls.mono (RDiv_f d0 d1 HK.out.2 (by decide) (by decide)) fun _ _ h => h.eqz HDV.out)) ?_
        exact RgAll.nil
       intro v W24 e1 hΦ _
       replace S := S.mono e1
       have h47 := hΦ 2 (by decide)
       simp only [layL, Act.put, uAx, u0x, u1x, Nat.reduceAdd]
       clear hΦ e1
       refine stA 3 (h := fun KK hKK => stI S 1 (w.heap.size) 0 h47 st_Int (fun W25 S2 G2 => hKK _ _ ?_) rfl)
       replace S := S2; clear S2 G2 hKK KK h47
       simp only [u0x, u1x] at S
       refine wpAny_done (by kernel_rfl) ?_ _
       go_upto_region 18 with (fail)
       refine rgs 4 [some 48, some 49, some 50, some 51] [IsV (.int .i64 kk), IsI k2 (((nn : Nat) : Int)), IsV (.int .i64 s), IsV (.int .i64 k3)] [] ?_ ?_
       ·refine Rc (mv (Od.lit 5)) ?_
        refine Rc (ldI S 0 (w.heap.size + 1) 0 (Od.lit 3) ld_Int) ?_
        refine Rc (cl1 (en Tryz.func92) (Od.lc (Φ := IsI k2 (((nn : Nat) : Int))) 1 49) (fun x0 w' hE d0 => (by have hh := two_f d0 HK.out.2; rw [show _ = _ from HS.out] at hh; exact hh))) ?_
        refine Rc (bn (r := .int .i64 k3) (Od.loc 0 48) (Od.loc 2 50) (hr := fun w => by have hx9 := HWR.out; go_simp)) ?_
        exact RgAll.nil
       intro v W26 e1 hΦ _
       replace S := S.mono e1
       have v3 : v 3 = .int .i64 k3 := hΦ 3 (by decide)
       simp only [layL, Act.put, uAx, u0x, u1x, Nat.reduceAdd]
       rw [v3]
       clear v3 hΦ e1
       refine wpList_step fun K hK => ?_; go_simp; refine hK _ _ ?_; clear hK K
       refine wpList_nil ?_
       have S' := hid S; clear S
       go_wp2_with fail
       go_roundg b2
       case measure => have := HG.out; have := HQ.out; omega
       case rel => exact ⟨b2, k3, rfl, rfl, HG.out.2.1, HG.out.2.2, HB3.out, HR3.out, S'⟩
      ·have HM2 := hid (show ((b : Nat) : Int) % ((2 : Nat) : Int) = 1 by omega)
       rw [kv_flip h2 HO.out.2.2.1] at hr
       obtain ⟨na, hna⟩ : ∃ x, nn % b = x := ⟨_, rfl⟩
       have hlt := Nat.mod_lt nn hb0
       rw [hna] at hr hlt
       obtain ⟨rb, hrb⟩ : ∃ r : Nat, b % 4 = r := ⟨_, rfl⟩
       obtain ⟨rn, hrn⟩ : ∃ r : Nat, nn % 4 = r := ⟨_, rfl⟩
       have HB4 := hid (show ((b : Nat) : Int) % ((4 : Nat) : Int) = ((rb : Nat) : Int) by omega)
       have HN4 := hid (show ((nn : Nat) : Int) % ((4 : Nat) : Int) = ((rn : Nat) : Int) by omega)
       obtain ⟨e3, he3⟩ : ∃ e, (rb == 3) = e := ⟨_, rfl⟩
       obtain ⟨f3, hf3⟩ : ∃ e, (rn == 3) = e := ⟨_, rfl⟩
       have HE3 := hid (show (((rb : Nat) : Int) == 3) = e3 ∧ (rb == 3) = e3 from ⟨by rw [← he3, Bool.eq_iff_iff, beq_iff_eq, beq_iff_eq]; omega, he3⟩)
       have HF3 := hid (show (((rn : Nat) : Int) == 3) = f3 ∧ (rn == 3) = f3 from ⟨by rw [← hf3, Bool.eq_iff_iff, beq_iff_eq, beq_iff_eq]; omega, hf3⟩)
       have HBZ := hid (show ((b : Nat) : Int) ≠ 0 by omega)
       have HNM := hid (show ((nn : Nat) : Int) % ((b : Nat) : Int) = ((na : Nat) : Int) by rw [← hna]; rfl)
       have HG := hid (show na < q ∧ na ≤ 4611686018427387904 ∧ b % 2 = 1 ∧ b ≤ 4611686018427387904 by have := HO.out; have := HI.out; omega)
       by_cases h3 : b % 4 = 3 ∧ nn % 4 = 3
       ·have HEF := hid (show (e3 && f3) = true by rw [← he3, ← hf3, Bool.and_eq_true, beq_iff_eq, beq_iff_eq]; omega)
        obtain ⟨kn, hkn⟩ : ∃ k, -kk = k := ⟨_, rfl⟩
        have HNG := hid (show IntKind.i64.wrap (-kk) = kn by rw [hkn]; exact wrapC_small (by omega) (by omega))
        rw [if_pos h3, hkn] at hr
        have HR3 := hid hr; have HB3 := hid (show -1 ≤ kn ∧ kn ≤ 1 by omega)
        clear hr hkk hgb hb0 hba h2 hq3 hna hlt hrb hrn he3 hf3 h3 hkn
        go_upto_region 16 with (fail)
        refine rgs 3 [some 42, some 43, some 44] [IsI k2 (((b : Nat) : Int)), IsV (.int .i64 1), IsV (.bool false)] [] ?_ ?_
        ·refine Rc (ldI S 1 (w.heap.size) 0 (Od.lit 2) ld_Int) ?_
         refine Rc (cl2 (en Tryz.func91) (Od.lc (Φ := IsI k2 (((b : Nat) : Int))) 0 42) Od.con (fun x0 x1 w' hE d0 d1 => by { obtain rfl : x1 = .int .i64 2 := d1; exact (by have hh := small_f d0 2 HK.out.2 (by decide); rw [show _ = _ from HM2.out] at hh; exact hh) })) ?_
         refine Rc (bn (r := .bool false) (Od.loc 1 43) Od.con (hr := fun w => by go_simp)) ?_
         exact RgAll.nil
        intro v W27 e1 hΦ _
        replace S := S.mono e1
        have v2 : v 2 = .bool false := hΦ 2 (by decide)
        simp only [layL, Act.put, uAx, u0x, u1x, Nat.reduceAdd]
        rw [v2]
        clear v2 hΦ e1
        refine wpList_nil ?_
        go_upto_region 19 with (fail)
        refine rgs 8 [some 52, some 53, some 54, some 55, some 56, some 57, some 58, some 59] [IsI k2 (((b : Nat) : Int)), IsV (.int .i64 ((rb : Nat) : Int)), IsV (.bool e3), IsV (.bool e3), IsIf (e3) (IsI k2 (((nn : Nat) : Int))), IsIf (e3) (IsV (.int .i64 ((rn : Nat) : Int))), IsIf (e3) (IsV (.bool f3)), IsV (.bool true)] [] ?_ ?_ (hst := by repeat' (first | exact trivial | apply IsIf.stb | exact IsV.stb _ | exact IsI.stb _ _ | apply IsJ.stb | apply IsQ.stb | apply IsF.stb | apply IsT2.stb | apply IsT3.stb | exact IsBo.stb _ _ | apply And.intro))
        ·refine Rc (ldI S 1 (w.heap.size) 0 (Od.lit 2) ld_Int) ?_
         refine Rc (cl2 (en Tryz.func91) (Od.lc (Φ := IsI k2 (((b : Nat) : Int))) 0 52) Od.con (fun x0 x1 w' hE d0 d1 => by { obtain rfl : x1 = .int .i64 4 := d1; exact (by have hh := small_f d0 4 HK.out.2 (by decide); rw [show _ = _ from HB4.out] at hh; exact hh) })) ?_
         refine Rc (bn (r := .bool e3) (Od.loc 1 53) Od.con (hr := fun w => by have hx9 := HE3.out.1; have hx8 := HE3.out.2; go_simp)) ?_
         refine Rc (mv (Od.lc 2 54)) ?_
         refine RcB 3 55 e3 true (fun hb => by subst hb; exact ldI S 0 (w.heap.size + 1) 0 (Od.lit 3) ld_Int) ?_
         refine RcB 3 55 e3 true (fun hb => by subst hb; exact cl2 (en Tryz.func91) (Od.lc (Φ := IsI k2 (((nn : Nat) : Int))) 4 56) Od.con (fun x0 x1 w' hE d0 d1 => by { obtain rfl : x1 = .int .i64 4 := d1; exact (by have hh := small_f d0 4 HK.out.2 (by decide); rw [show _ = _ from HN4.out] at hh; exact hh) })) ?_
         refine RcB 3 55 e3 true (fun hb => by subst hb; exact bn (r := .bool f3) (Od.loc 5 57) Od.con (hr := fun w => by have hx9 := HF3.out.1; have hx8 := HF3.out.2; go_simp)) ?_
         refine Rc (pkA (b2 := f3) (Od.loc 3 55) (fun hb => by subst hb; exact Od.lc 6 58) (HEF.out)) ?_
         exact RgAll.nil
        intro v W28 e1 hΦ _
        replace S := S.mono e1
        have v7 : v 7 = .bool true := hΦ 7 (by decide)
        simp only [layL, Act.put, uAx, u0x, u1x, Nat.reduceAdd]
        rw [v7]
        clear v7 hΦ e1
        refine wpList_nil ?_
        go_upto_region 20 with (fail)
        refine rgs 2 [some 60, some 61] [IsV (.int .i64 kk), IsV (.int .i64 kn)] [] ?_ ?_
        ·refine Rc (mv (Od.lit 5)) ?_
         refine Rc (un (r := .int .i64 kn) (Od.loc 0 60) (hr := fun w => by have hx9 := HNG.out; go_simp)) ?_
         exact RgAll.nil
        intro v W29 e1 hΦ _
        replace S := S.mono e1
        have v1 : v 1 = .int .i64 kn := hΦ 1 (by decide)
        simp only [layL, Act.put, uAx, u0x, u1x, Nat.reduceAdd]
        rw [v1]
        clear v1 hΦ e1
        refine wpList_step fun K hK => ?_; go_simp; refine hK _ _ ?_; clear hK K
        refine wpList_nil ?_
        go_upto_region 21 with (fail)
        have hl := hid S.lt; have hw := S.ext.size
        refine rgs 4 [some 62, some 63, some 64, some 6] [IsI k2 (((nn : Nat) : Int)), IsI k2 (((b : Nat) : Int)), IsI k2 (((na : Nat) : Int)), IsBo W29 1] [3] ?_ ?_
        ·refine Rc (ldI S 0 (w.heap.size + 1) 0 (Od.lit 3) ld_Int) ?_
         refine Rc (ldI S 1 (w.heap.size) 0 (Od.lit 2) ld_Int) ?_
         refine Rc (cl2 (en Tryz.func94) (Od.lc (Φ := IsI k2 (((nn : Nat) : Int))) 0 62) (Od.lc (Φ := IsI k2 (((b : Nat) : Int))) 1 63) (fun x0 x1 w' hE d0 d1 => Calls.mono (RMod_f d0 d1 HK.out.2 HK.out.2 HBZ.out) fun _ _ h => h.eqz HNM.out)) ?_
         refine Rc (al al_Int) ?_
         exact RgAll.nil
        intro v W30 e1 hΦ _
        replace S := S.mono e1
        have h64 := hΦ 2 (by decide)
        obtain ⟨g6, v3, q2, b1, _⟩ := (hΦ 3 (by decide) : IsBo W29 1 (v 3) W30)
        replace S := S.addN 1 (ApartO.old hl.out q2) (Nat.le_trans hw q2) b1
        simp only [newF, List.cons_append, List.nil_append] at S
        simp only [layL, Act.put, uAx, u0x, u1x, Nat.reduceAdd]
        rw [v3]
        clear b1 hl hw v3 hΦ e1
        try simp only [List.drop_succ_cons, List.drop_zero]
        (with_reducible refine stL ?_ (by rfl)); intro KK hKK; refine stI S 0 (g6) 0 h64 st_Int (fun W31 S2 G2 => hKK _ _ ?_) rfl
        replace S := S2; clear S2 G2 hKK KK h64
        simp only [u0x] at S
        refine wpList_nil ?_
        go_upto_region 22 with (fail)
        refine rgs 1 [some 65] [IsI k2 (((b : Nat) : Int))] [] ?_ ?_
        ·refine Rc (ldI S 2 (w.heap.size) 0 (Od.lit 2) ld_Int) ?_
         exact RgAll.nil
        intro v W32 e1 hΦ _
        replace S := S.mono e1
        have h65 := hΦ 0 (by decide)
        simp only [layL, Act.put, uAx, u0x, u1x]
        clear hΦ e1
        try simp only [List.drop_succ_cons, List.drop_zero]
        (with_reducible refine stL ?_ (by rfl)); intro KK hKK; refine stI S 1 (w.heap.size + 1) 0 h65 st_Int (fun W33 S2 G2 => hKK _ _ ?_) rfl
        replace S := S2; clear S2 G2 hKK KK h65
        simp only [u0x, u1x] at S
        refine wpList_nil ?_
        go_upto_region 23 with (fail)
        refine rgs 1 [some 66] [IsI k2 (((na : Nat) : Int))] [] ?_ ?_
        ·refine Rc (ldI S 0 (g6) 0 (Od.lit 6) ld_Int) ?_
         exact RgAll.nil
        intro v W34 e1 hΦ _
        replace S := S.mono e1
        have h66 := hΦ 0 (by decide)
        simp only [layL, Act.put, uAx, u0x, u1x]
        clear hΦ e1
        try simp only [List.drop_succ_cons, List.drop_zero]
        (with_reducible refine stL ?_ (by rfl)); intro KK hKK; refine stI S 2 (w.heap.size) 0 h66 st_Int (fun W35 S2 G2 => hKK _ _ ?_) rfl
        replace S := S2; clear S2 G2 hKK KK h66
        simp only [u0x, u1x] at S
        refine wpList_nil ?_
        have S' := S.drop 1; simp only [List.drop_succ_cons, List.drop_zero] at S'; have S' := hid S'; clear S
        go_wp2_with fail
        go_roundg na
        case measure => have := HG.out; have := HO.out; omega
        case rel => exact ⟨na, b, kn, rfl, rfl, HG.out.2.1, HG.out.2.2.1, HG.out.2.2.2, HB3.out, HR3.out, S'⟩
       ·have HEF := hid (show (e3 && f3) = false by rw [← he3, ← hf3, Bool.eq_false_iff]; intro k; rw [Bool.and_eq_true, beq_iff_eq, beq_iff_eq] at k; exact h3 (by omega))
        rw [if_neg h3] at hr
        have HR3 := hid hr; have HB3 := hid hkk
        clear hr hkk hgb hb0 hba h2 hq3 hna hlt hrb hrn he3 hf3 h3
        go_upto_region 16 with (fail)
        refine rgs 3 [some 42, some 43, some 44] [IsI k2 (((b : Nat) : Int)), IsV (.int .i64 1), IsV (.bool false)] [] ?_ ?_
        ·refine Rc (ldI S 1 (w.heap.size) 0 (Od.lit 2) ld_Int) ?_
         refine Rc (cl2 (en Tryz.func91) (Od.lc (Φ := IsI k2 (((b : Nat) : Int))) 0 42) Od.con (fun x0 x1 w' hE d0 d1 => by { obtain rfl : x1 = .int .i64 2 := d1; exact (by have hh := small_f d0 2 HK.out.2 (by decide); rw [show _ = _ from HM2.out] at hh; exact hh) })) ?_
         refine Rc (bn (r := .bool false) (Od.loc 1 43) Od.con (hr := fun w => by go_simp)) ?_
         exact RgAll.nil
        intro v W36 e1 hΦ _
        replace S := S.mono e1
        have v2 : v 2 = .bool false := hΦ 2 (by decide)
        simp only [layL, Act.put, uAx, u0x, u1x, Nat.reduceAdd]
        rw [v2]
        clear v2 hΦ e1
        refine wpList_nil ?_
        go_upto_region 19 with (fail)
        refine rgs 8 [some 52, some 53, some 54, some 55, some 56, some 57, some 58, some 59] [IsI k2 (((b : Nat) : Int)), IsV (.int .i64 ((rb : Nat) : Int)), IsV (.bool e3), IsV (.bool e3), IsIf (e3) (IsI k2 (((nn : Nat) : Int))), IsIf (e3) (IsV (.int .i64 ((rn : Nat) : Int))), IsIf (e3) (IsV (.bool f3)), IsV (.bool false)] [] ?_ ?_ (hst := by repeat' (first | exact trivial | apply IsIf.stb | exact IsV.stb _ | exact IsI.stb _ _ | apply IsJ.stb | apply IsQ.stb | apply IsF.stb | apply IsT2.stb | apply IsT3.stb | exact IsBo.stb _ _ | apply And.intro))
        ·refine Rc (ldI S 1 (w.heap.size) 0 (Od.lit 2) ld_Int) ?_
         refine Rc (cl2 (en Tryz.func91) (Od.lc (Φ := IsI k2 (((b : Nat) : Int))) 0 52) Od.con (fun x0 x1 w' hE d0 d1 => by { obtain rfl : x1 = .int .i64 4 := d1; exact (by have hh := small_f d0 4 HK.out.2 (by decide); rw [show _ = _ from HB4.out] at hh; exact hh) })) ?_
         refine Rc (bn (r := .bool e3) (Od.loc 1 53) Od.con (hr := fun w => by have hx9 := HE3.out.1; have hx8 := HE3.out.2; go_simp)) ?_
         refine Rc (mv (Od.lc 2 54)) ?_
         refine RcB 3 55 e3 true (fun hb => by subst hb; exact ldI S 0 (w.heap.size + 1) 0 (Od.lit 3) ld_Int) ?_
         refine RcB 3 55 e3 true (fun hb => by subst hb; exact cl2 (en Tryz.func91) (Od.lc (Φ := IsI k2 (((nn : Nat) : Int))) 4 56) Od.con (fun x0 x1 w' hE d0 d1 => by { obtain rfl : x1 = .int .i64 4 := d1; exact (by have hh := small_f d0 4 HK.out.2 (by decide); rw [show _ = _ from HN4.out] at hh; exact hh) })) ?_
         refine RcB 3 55 e3 true (fun hb => by subst hb; exact bn (r := .bool f3) (Od.loc 5 57) Od.con (hr := fun w => by have hx9 := HF3.out.1; have hx8 := HF3.out.2; go_simp)) ?_
         refine Rc (pkA (b2 := f3) (Od.loc 3 55) (fun hb => by subst hb; exact Od.lc 6 58) (HEF.out)) ?_
         exact RgAll.nil
        intro v W37 e1 hΦ _
        replace S := S.mono e1
        have v7 : v 7 = .bool false := hΦ 7 (by decide)
        simp only [layL, Act.put, uAx, u0x, u1x, Nat.reduceAdd]
        rw [v7]
        clear v7 hΦ e1
        refine wpList_nil ?_
        go_upto_region 21 with (fail)
        have hl := hid S.lt; have hw := S.ext.size
        refine rgs 4 [some 62, some 63, some 64, some 6] [IsI k2 (((nn : Nat) : Int)), IsI k2 (((b : Nat) : Int)), IsI k2 (((na : Nat) : Int)), IsBo W37 1] [3] ?_ ?_
        ·refine Rc (ldI S 0 (w.heap.size + 1) 0 (Od.lit 3) ld_Int) ?_
         refine Rc (ldI S 1 (w.heap.size) 0 (Od.lit 2) ld_Int) ?_
         refine Rc (cl2 (en Tryz.func94) (Od.lc (Φ := IsI k2 (((nn : Nat) : Int))) 0 62) (Od.lc (Φ := IsI k2 (((b : Nat) : Int))) 1 63) (fun x0 x1 w' hE d0 d1 => Calls.mono (RMod_f d0 d1 HK.out.2 HK.out.2 HBZ.out) fun _ _ h => h.eqz HNM.out)) ?_
         refine Rc (al al_Int) ?_
         exact RgAll.nil
        intro v W38 e1 hΦ _
        replace S := S.mono e1
        have h64 := hΦ 2 (by decide)
        obtain ⟨g6, v3, q4, b3, _⟩ := (hΦ 3 (by decide) : IsBo W37 1 (v 3) W38)
        replace S := S.addN 1 (ApartO.old hl.out q4) (Nat.le_trans hw q4) b3
        simp only [newF, List.cons_append, List.nil_append] at S
        simp only [layL, Act.put, uAx, u0x, u1x, Nat.reduceAdd]
        rw [v3]
        clear b3 hl hw v3 hΦ e1
        try simp only [List.drop_succ_cons, List.drop_zero]
        (with_reducible refine stL ?_ (by rfl)); intro KK hKK; refine stI S 0 (g6) 0 h64 st_Int (fun W39 S2 G2 => hKK _ _ ?_) rfl
        replace S := S2; clear S2 G2 hKK KK h64
        simp only [u0x] at S
        refine wpList_nil ?_
        go_upto_region 22 with (fail)
        refine rgs 1 [some 65] [IsI k2 (((b : Nat) : Int))] [] ?_ ?_
        ·refine Rc (ldI S 2 (w.heap.size) 0 (Od.lit 2) ld_Int) ?_
         exact RgAll.nil
        intro v W40 e1 hΦ _
        replace S := S.mono e1
        have h65 := hΦ 0 (by decide)
        simp only [layL, Act.put, uAx, u0x, u1x]
        clear hΦ e1
        try simp only [List.drop_succ_cons, List.drop_zero]
        (with_reducible refine stL ?_ (by rfl)); intro KK hKK; refine stI S 1 (w.heap.size + 1) 0 h65 st_Int (fun W41 S2 G2 => hKK _ _ ?_) rfl
        replace S := S2; clear S2 G2 hKK KK h65
        simp only [u0x, u1x] at S
        refine wpList_nil ?_
        go_upto_region 23 with (fail)
        refine rgs 1 [some 66] [IsI k2 (((na : Nat) : Int))] [] ?_ ?_
        ·refine Rc (ldI S 0 (g6) 0 (Od.lit 6) ld_Int) ?_
         exact RgAll.nil
        intro v W42 e1 hΦ _
        replace S := S.mono e1
        have h66 := hΦ 0 (by decide)
        simp only [layL, Act.put, uAx, u0x, u1x]
        clear hΦ e1
        try simp only [List.drop_succ_cons, List.drop_zero]
        (with_reducible refine stL ?_ (by rfl)); intro KK hKK; refine stI S 2 (w.heap.size) 0 h66 st_Int (fun W43 S2 G2 => hKK _ _ ?_) rfl
        replace S := S2; clear S2 G2 hKK KK h66
        simp only [u0x, u1x] at S
        refine wpList_nil ?_
        have S' := S.drop 1; simp only [List.drop_succ_cons, List.drop_zero] at S'; have S' := hid S'; clear S
        go_wp2_with fail
        go_roundg na
        case measure => have := HG.out; have := HO.out; omega
        case rel => exact ⟨na, b, kk, rfl, rfl, HG.out.2.1, HG.out.2.2.1, HG.out.2.2.2, HB3.out, HR3.out, S'⟩

theorem RKron_f {k1 k2 n : Nat} {z : Int} {x y : Value} {w : World} (hx : IsI k1 z x w) (hy : IsI k2 ((n : Nat) : Int) y w) (l1 : k1 ≤ 67108864) (l2 : k2 ≤ 67108864) (hn : 0 < n ∧ n ≤ 4611686018427387904) : Calls Tryz.prog 48 #[x, y] w (Ret w (IsV (.int .i64 (kr z n)))) :=
 RKron_a hx hy (hid ⟨l1, l2⟩) (hid hn) (hid (Int.sign_eq_one_of_pos (by omega))) (hid (by omega)) (hid rfl)

end Go.Proofs.YtknffgdbdadpcaaGreatDoor
