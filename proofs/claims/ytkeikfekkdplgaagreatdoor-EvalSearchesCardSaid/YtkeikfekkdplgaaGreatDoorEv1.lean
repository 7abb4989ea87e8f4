/-
 Package eval: of, exact, less, greater, truth, short. (Printed by wip/gen/ev1.py.)
-/
import Derived.Test.YtkeikfekkdplgaaGreatDoorEv0
namespace Go.Proofs.YtkeikfekkdplgaaGreatDoor
open Go Go.RowKit

set_option maxRecDepth 100000 in
set_option maxHeartbeats 4000000 in
theorem of_f (w : World) (z : Int) (hz : -9223372036854775808 ≤ z ∧ z ≤ 9223372036854775807) : Calls Tryz.prog 110 #[.int .i64 z] w (Ret w (IsI 2 z)) := by
 have HZ := hid hz
 clear hz
 obtain ⟨W, hW, S⟩ : ∃ W, W = w.alloc (.cells #[.bool false, .slice none 0 0] 28) ∧ Sto w W [((w.heap.size, 0), IsI 0 0)] := ⟨_, rfl, ((Sto.start w).new1 (w.heap.size) (by simp) false none 0 0 28 (IsI 0 0) (IsI.gstb _ _) (IsI.nil _ _))⟩
 go_enter Tryz.func110, Tryz.ntmps110
 go_upto_region 1 with (fail)
 rw [← hW]
 clear hW
 refine rgs 2 [some 3, some 4] [IsV (.int .i64 z), IsI 2 z] [] ?_ ?_
 ·refine Rc (mv (Od.lit 0)) ?_
  refine Rc (cl1 (en Tryz.func108) (Od.lc (Φ := IsV (.int .i64 z)) 0 3) (fun x0 w' hE d0 => by { obtain rfl : x0 = .int .i64 z := d0; exact Of_f _ z HZ.out.1 HZ.out.2 })) ?_
  exact RgAll.nil
 intro v W1 e1 hΦ _
 replace S := S.mono e1
 have h4 := hΦ 1 (by decide)
 simp only [layL, Act.put, uAx, u0x, u1x, Nat.reduceAdd]
 clear hΦ e1
 try simp only [List.drop_succ_cons, List.drop_zero]
 (with_reducible refine stL ?_ (by rfl)); intro KK hKK; refine stI S 0 (w.heap.size) 0 h4 st_Int (fun W2 S2 G2 => hKK _ _ ?_) rfl
 replace S := S2; clear S2 G2 hKK KK h4
 simp only [u0x] at S
 refine wpList_nil ?_
 go_wp2_with fail
 obtain ⟨s90x, a90x, n90x, c90x, b90x, h90x⟩ := S.at 0 (w.heap.size) 0 (IsI 2 z) rfl; have L90xa : World.cell? W2 ⟨w.heap.size, 0, none⟩ = some (.bool s90x) := b90x.c0; have L90xb : World.cell? W2 ⟨w.heap.size, 1, none⟩ = some (.slice a90x n90x c90x) := b90x.c1
 exact bodyPost_ret (v := .agg #[.bool s90x, .slice a90x n90x c90x]) (by simp [results, Tryz.results110, go_sem, L90xa, L90xb]) rfl (⟨_, rfl, S.ext, h90x⟩)

set_option maxRecDepth 100000 in
set_option maxHeartbeats 4000000 in
theorem lessv_y {k : Nat} {z1 z2 c : Int} {x y : Value} {w : World} (hx : IsI k z1 x w) (hy : IsI k z2 y w) (HK : Hid (k ≤ 268435456)) (HC : Hid (cmpI z2 z1 = c)) (HB : Hid (c < 0)) : Calls Tryz.prog 144 #[x, y] w (Ret w (IsI k z2)) := by
 obtain ⟨s1, a1, n1, c1, rfl, h1⟩ := hx
 have h1 : IsI _ _ _ w := ⟨_, _, _, _, rfl, h1⟩
 obtain ⟨s2, a2, n2, c2, rfl, h2⟩ := hy
 have h2 : IsI _ _ _ w := ⟨_, _, _, _, rfl, h2⟩
 obtain ⟨W, hW, S⟩ : ∃ W, W = ((w.alloc (.cells #[.bool s1, .slice a1 n1 c1] 28)).alloc (.cells #[.bool s2, .slice a2 n2 c2] 28)).alloc (.cells #[.bool false, .slice none 0 0] 28) ∧ Sto w W [((w.heap.size + 1 + 1, 0), IsI 0 0), ((w.heap.size + 1, 0), IsI k z2), ((w.heap.size, 0), IsI k z1)] := ⟨_, rfl, ((((Sto.start w).new1 (w.heap.size) (by simp) s1 a1 n1 c1 28 (IsI k z1) (IsI.gstb _ _) (h1)).new1 (w.heap.size + 1) (by simp) s2 a2 n2 c2 28 (IsI k z2) (IsI.gstb _ _) (h2.ext ((Ext.refl _).alloc _))).new1 (w.heap.size + 1 + 1) (by simp) false none 0 0 28 (IsI 0 0) (IsI.gstb _ _) (IsI.nil _ _))⟩
 clear h1 h2
 go_enter Tryz.func144, Tryz.ntmps144
 go_upto_region 1 with (fail)
 rw [← hW]
 clear hW
 refine rgs 4 [some 5, some 6, some 7, some 8] [IsI k z2, IsI k z1, IsV (.int .i64 c), IsV (.bool true)] [] ?_ ?_
 ·refine Rc (ldI S 1 (w.heap.size + 1) 0 (Od.lit 3) ld_Int) ?_
  refine Rc (ldI S 2 (w.heap.size) 0 (Od.lit 2) ld_Int) ?_
  refine Rc (cl2 (en Tryz.func150) (Od.lc (Φ := IsI k z2) 0 5) (Od.lc (Φ := IsI k z1) 1 6) (fun x0 x1 w' hE d0 d1 => Calls.mono (Cmp_f d0 d1 (by have := HK.out; omega) (by have := HK.out; omega)) fun _ _ h => h.int HC.out)) ?_
  refine Rc (bn (r := .bool true) (Od.loc 2 7) Od.con (hr := fun w => by have hx9 := HB.out; go_simp)) ?_
  exact RgAll.nil
 intro v W1 e1 hΦ _
 replace S := S.mono e1
 have v3 : v 3 = .bool true := hΦ 3 (by decide)
 simp only [layL, Act.put, uAx, u0x, u1x, Nat.reduceAdd]
 rw [v3]
 clear v3 hΦ e1
 refine wpList_nil ?_
 go_upto_region 2 with (fail)
 refine rgs 1 [some 9] [IsI k z2] [] ?_ ?_
 ·refine Rc (ldI S 1 (w.heap.size + 1) 0 (Od.lit 3) ld_Int) ?_
  exact RgAll.nil
 intro v W2 e1 hΦ _
 replace S := S.mono e1
 have h9 := hΦ 0 (by decide)
 simp only [layL, Act.put, uAx, u0x, u1x]
 clear hΦ e1
 try simp only [List.drop_succ_cons, List.drop_zero]
 (with_reducible refine stL ?_ (by rfl)); intro KK hKK; refine stI S 0 (w.heap.size + 1 + 1) 0 h9 st_Int (fun W3 S2 G2 => hKK _ _ ?_) rfl
 replace S := S2; clear S2 G2 hKK KK h9
 simp only [u0x] at S
 refine wpList_nil ?_
 go_wp2_with fail
 obtain ⟨s90x, a90x, n90x, c90x, b90x, h90x⟩ := S.at 0 (w.heap.size + 1 + 1) 0 (IsI k z2) rfl; have L90xa : World.cell? W3 ⟨w.heap.size + 1 + 1, 0, none⟩ = some (.bool s90x) := b90x.c0; have L90xb : World.cell? W3 ⟨w.heap.size + 1 + 1, 1, none⟩ = some (.slice a90x n90x c90x) := b90x.c1
 exact bodyPost_ret (v := .agg #[.bool s90x, .slice a90x n90x c90x]) (by simp [results, Tryz.results144, go_sem, L90xa, L90xb]) rfl (⟨_, rfl, S.ext, h90x⟩)

set_option maxRecDepth 100000 in
set_option maxHeartbeats 4000000 in
theorem lessv_n {k : Nat} {z1 z2 c : Int} {x y : Value} {w : World} (hx : IsI k z1 x w) (hy : IsI k z2 y w) (HK : Hid (k ≤ 268435456)) (HC : Hid (cmpI z2 z1 = c)) (HB : Hid (¬ c < 0)) : Calls Tryz.prog 144 #[x, y] w (Ret w (IsI k z1)) := by
 obtain ⟨s1, a1, n1, c1, rfl, h1⟩ := hx
 have h1 : IsI _ _ _ w := ⟨_, _, _, _, rfl, h1⟩
 obtain ⟨s2, a2, n2, c2, rfl, h2⟩ := hy
 have h2 : IsI _ _ _ w := ⟨_, _, _, _, rfl, h2⟩
 obtain ⟨W, hW, S⟩ : ∃ W, W = ((w.alloc (.cells #[.bool s1, .slice a1 n1 c1] 28)).alloc (.cells #[.bool s2, .slice a2 n2 c2] 28)).alloc (.cells #[.bool false, .slice none 0 0] 28) ∧ Sto w W [((w.heap.size + 1 + 1, 0), IsI 0 0), ((w.heap.size + 1, 0), IsI k z2), ((w.heap.size, 0), IsI k z1)] := ⟨_, rfl, ((((Sto.start w).new1 (w.heap.size) (by simp) s1 a1 n1 c1 28 (IsI k z1) (IsI.gstb _ _) (h1)).new1 (w.heap.size + 1) (by simp) s2 a2 n2 c2 28 (IsI k z2) (IsI.gstb _ _) (h2.ext ((Ext.refl _).alloc _))).new1 (w.heap.size + 1 + 1) (by simp) false none 0 0 28 (IsI 0 0) (IsI.gstb _ _) (IsI.nil _ _))⟩
 clear h1 h2
 go_enter Tryz.func144, Tryz.ntmps144
 go_upto_region 1 with (fail)
 rw [← hW]
 clear hW
 refine rgs 4 [some 5, some 6, some 7, some 8] [IsI k z2, IsI k z1, IsV (.int .i64 c), IsV (.bool false)] [] ?_ ?_
 ·refine Rc (ldI S 1 (w.heap.size + 1) 0 (Od.lit 3) ld_Int) ?_
  refine Rc (ldI S 2 (w.heap.size) 0 (Od.lit 2) ld_Int) ?_
  refine Rc (cl2 (en Tryz.func150) (Od.lc (Φ := IsI k z2) 0 5) (Od.lc (Φ := IsI k z1) 1 6) (fun x0 x1 w' hE d0 d1 => Calls.mono (Cmp_f d0 d1 (by have := HK.out; omega) (by have := HK.out; omega)) fun _ _ h => h.int HC.out)) ?_
  refine Rc (bn (r := .bool false) (Od.loc 2 7) Od.con (hr := fun w => by have hx9 := HB.out; go_simp)) ?_
  exact RgAll.nil
 intro v W1 e1 hΦ _
 replace S := S.mono e1
 have v3 : v 3 = .bool false := hΦ 3 (by decide)
 simp only [layL, Act.put, uAx, u0x, u1x, Nat.reduceAdd]
 rw [v3]
 clear v3 hΦ e1
 refine wpList_nil ?_
 go_upto_region 3 with (fail)
 refine rgs 1 [some 10] [IsI k z1] [] ?_ ?_
 ·refine Rc (ldI S 2 (w.heap.size) 0 (Od.lit 2) ld_Int) ?_
  exact RgAll.nil
 intro v W2 e1 hΦ _
 replace S := S.mono e1
 have h10 := hΦ 0 (by decide)
 simp only [layL, Act.put, uAx, u0x, u1x]
 clear hΦ e1
 try simp only [List.drop_succ_cons, List.drop_zero]
 (with_reducible refine stL ?_ (by rfl)); intro KK hKK; refine stI S 0 (w.heap.size + 1 + 1) 0 h10 st_Int (fun W3 S2 G2 => hKK _ _ ?_) rfl
 replace S := S2; clear S2 G2 hKK KK h10
 simp only [u0x] at S
 refine wpList_nil ?_
 go_wp2_with fail
 obtain ⟨s90x, a90x, n90x, c90x, b90x, h90x⟩ := S.at 0 (w.heap.size + 1 + 1) 0 (IsI k z1) rfl; have L90xa : World.cell? W3 ⟨w.heap.size + 1 + 1, 0, none⟩ = some (.bool s90x) := b90x.c0; have L90xb : World.cell? W3 ⟨w.heap.size + 1 + 1, 1, none⟩ = some (.slice a90x n90x c90x) := b90x.c1
 exact bodyPost_ret (v := .agg #[.bool s90x, .slice a90x n90x c90x]) (by simp [results, Tryz.results144, go_sem, L90xa, L90xb]) rfl (⟨_, rfl, S.ext, h90x⟩)

theorem lessv_f {k : Nat} {z1 z2 : Int} {x y : Value} {w : World} (hx : IsI k z1 x w) (hy : IsI k z2 y w) (hk : k ≤ 268435456) : Calls Tryz.prog 144 #[x, y] w (Ret w (IsI k (min z1 z2))) := by
 by_cases h : z2 < z1
 ·rw [show min z1 z2 = z2 by omega]
  exact lessv_y hx hy (hid hk) (hid rfl) (hid (by unfold cmpI; (repeat' split) <;> omega))
 ·rw [show min z1 z2 = z1 by omega]
  exact lessv_n hx hy (hid hk) (hid rfl) (hid (by unfold cmpI; (repeat' split) <;> omega))

set_option maxRecDepth 100000 in
set_option maxHeartbeats 4000000 in
theorem greaterv_y {k : Nat} {z1 z2 c : Int} {x y : Value} {w : World} (hx : IsI k z1 x w) (hy : IsI k z2 y w) (HK : Hid (k ≤ 268435456)) (HC : Hid (cmpI z2 z1 = c)) (HB : Hid (0 < c)) : Calls Tryz.prog 145 #[x, y] w (Ret w (IsI k z2)) := by
 obtain ⟨s1, a1, n1, c1, rfl, h1⟩ := hx
 have h1 : IsI _ _ _ w := ⟨_, _, _, _, rfl, h1⟩
 obtain ⟨s2, a2, n2, c2, rfl, h2⟩ := hy
 have h2 : IsI _ _ _ w := ⟨_, _, _, _, rfl, h2⟩
 obtain ⟨W, hW, S⟩ : ∃ W, W = ((w.alloc (.cells #[.bool s1, .slice a1 n1 c1] 28)).alloc (.cells #[.bool s2, .slice a2 n2 c2] 28)).alloc (.cells #[.bool false, .slice none 0 0] 28) ∧ Sto w W [((w.heap.size + 1 + 1, 0), IsI 0 0), ((w.heap.size + 1, 0), IsI k z2), ((w.heap.size, 0), IsI k z1)] := ⟨_, rfl, ((((Sto.start w).new1 (w.heap.size) (by simp) s1 a1 n1 c1 28 (IsI k z1) (IsI.gstb _ _) (h1)).new1 (w.heap.size + 1) (by simp) s2 a2 n2 c2 28 (IsI k z2) (IsI.gstb _ _) (h2.ext ((Ext.refl _).alloc _))).new1 (w.heap.size + 1 + 1) (by simp) false none 0 0 28 (IsI 0 0) (IsI.gstb _ _) (IsI.nil _ _))⟩
 clear h1 h2
 go_enter Tryz.func145, Tryz.ntmps145
 go_upto_region 1 with (fail)
 rw [← hW]
 clear hW
 refine rgs 4 [some 5, some 6, some 7, some 8] [IsI k z2, IsI k z1, IsV (.int .i64 c), IsV (.bool true)] [] ?_ ?_
 ·refine Rc (ldI S 1 (w.heap.size + 1) 0 (Od.lit 3) ld_Int) ?_
  refine Rc (ldI S 2 (w.heap.size) 0 (Od.lit 2) ld_Int) ?_
  refine Rc (cl2 (en Tryz.func150) (Od.lc (Φ := IsI k z2) 0 5) (Od.lc (Φ := IsI k z1) 1 6) (fun x0 x1 w' hE d0 d1 => Calls.mono (Cmp_f d0 d1 (by have := HK.out; omega) (by have := HK.out; omega)) fun _ _ h => h.int HC.out)) ?_
  refine Rc (bn (r := .bool true) (Od.loc 2 7) Od.con (hr := fun w => by have hx9 := HB.out; go_simp)) ?_
  exact RgAll.nil
 intro v W1 e1 hΦ _
 replace S := S.mono e1
 have v3 : v 3 = .bool true := hΦ 3 (by decide)
 simp only [layL, Act.put, uAx, u0x, u1x, Nat.reduceAdd]
 rw [v3]
 clear v3 hΦ e1
 refine wpList_nil ?_
 go_upto_region 2 with (fail)
 refine rgs 1 [some 9] [IsI k z2] [] ?_ ?_
 ·refine Rc (ldI S 1 (w.heap.size + 1) 0 (Od.lit 3) ld_Int) ?_
  exact RgAll.nil
 intro v W2 e1 hΦ _
 replace S := S.mono e1
 have h9 := hΦ 0 (by decide)
 simp only [layL, Act.put, uAx, u0x, u1x]
 clear hΦ e1
 try simp only [List.drop_succ_cons, List.drop_zero]
 (with_reducible refine stL ?_ (by rfl)); intro KK hKK; refine stI S 0 (w.heap.size + 1 + 1) 0 h9 st_Int (fun W3 S2 G2 => hKK _ _ ?_) rfl
 replace S := S2; clear S2 G2 hKK KK h9
 simp only [u0x] at S
 refine wpList_nil ?_
 go_wp2_with fail
 obtain ⟨s90x, a90x, n90x, c90x, b90x, h90x⟩ := S.at 0 (w.heap.size + 1 + 1) 0 (IsI k z2) rfl; have L90xa : World.cell? W3 ⟨w.heap.size + 1 + 1, 0, none⟩ = some (.bool s90x) := b90x.c0; have L90xb : World.cell? W3 ⟨w.heap.size + 1 + 1, 1, none⟩ = some (.slice a90x n90x c90x) := b90x.c1
 exact bodyPost_ret (v := .agg #[.bool s90x, .slice a90x n90x c90x]) (by simp [results, Tryz.results145, go_sem, L90xa, L90xb]) rfl (⟨_, rfl, S.ext, h90x⟩)

set_option maxRecDepth 100000 in
set_option maxHeartbeats 4000000 in
theorem greaterv_n {k : Nat} {z1 z2 c : Int} {x y : Value} {w : World} (hx : IsI k z1 x w) (hy : IsI k z2 y w) (HK : Hid (k ≤ 268435456)) (HC : Hid (cmpI z2 z1 = c)) (HB : Hid (¬ 0 < c)) : Calls Tryz.prog 145 #[x, y] w (Ret w (IsI k z1)) := by
 obtain ⟨s1, a1, n1, c1, rfl, h1⟩ := hx
 have h1 : IsI _ _ _ w := ⟨_, _, _, _, rfl, h1⟩
 obtain ⟨s2, a2, n2, c2, rfl, h2⟩ := hy
 have h2 : IsI _ _ _ w := ⟨_, _, _, _, rfl, h2⟩
 obtain ⟨W, hW, S⟩ : ∃ W, W = ((w.alloc (.cells #[.bool s1, .slice a1 n1 c1] 28)).alloc (.cells #[.bool s2, .slice a2 n2 c2] 28)).alloc (.cells #[.bool false, .slice none 0 0] 28) ∧ Sto w W [((w.heap.size + 1 + 1, 0), IsI 0 0), ((w.heap.size + 1, 0), IsI k z2), ((w.heap.size, 0), IsI k z1)] := ⟨_, rfl, ((((Sto.start w).new1 (w.heap.size) (by simp) s1 a1 n1 c1 28 (IsI k z1) (IsI.gstb _ _) (h1)).new1 (w.heap.size + 1) (by simp) s2 a2 n2 c2 28 (IsI k z2) (IsI.gstb _ _) (h2.ext ((Ext.refl _).alloc _))).new1 (w.heap.size + 1 + 1) (by simp) false none 0 0 28 (IsI 0 0) (IsI.gstb _ _) (IsI.nil _ _))⟩
 clear h1 h2
 go_enter Tryz.func145, Tryz.ntmps145
 go_upto_region 1 with (fail)
 rw [← hW]
 clear hW
 refine rgs 4 [some 5, some 6, some 7, some 8] [IsI k z2, IsI k z1, IsV (.int .i64 c), IsV (.bool false)] [] ?_ ?_
 ·refine Rc (ldI S 1 (w.heap.size + 1) 0 (Od.lit 3) ld_Int) ?_
  refine Rc (ldI S 2 (w.heap.size) 0 (Od.lit 2) ld_Int) ?_
  refine Rc (cl2 (en Tryz.func150) (Od.lc (Φ := IsI k z2) 0 5) (Od.lc (Φ := IsI k z1) 1 6) (fun x0 x1 w' hE d0 d1 => Calls.mono (Cmp_f d0 d1 (by have := HK.out; omega) (by have := HK.out; omega)) fun _ _ h => h.int HC.out)) ?_
  refine Rc (bn (r := .bool false) (Od.loc 2 7) Od.con (hr := fun w => by have hx9 := HB.out; go_simp)) ?_
  exact RgAll.nil
 intro v W1 e1 hΦ _
 replace S := S.mono e1
 have v3 : v 3 = .bool false := hΦ 3 (by decide)
 simp only [layL, Act.put, uAx, u0x, u1x, Nat.reduceAdd]
 rw [v3]
 clear v3 hΦ e1
 refine wpList_nil ?_
 go_upto_region 3 with (fail)
 refine rgs 1 [some 10] [IsI k z1] [] ?_ ?_
 ·refine Rc (ldI S 2 (w.heap.size) 0 (Od.lit 2) ld_Int) ?_
  exact RgAll.nil
 intro v W2 e1 hΦ _
 replace S := S.mono e1
 have h10 := hΦ 0 (by decide)
 simp only [layL, Act.put, uAx, u0x, u1x]
 clear hΦ e1
 try simp only [List.drop_succ_cons, List.drop_zero]
 (with_reducible refine stL ?_ (by rfl)); intro KK hKK; refine stI S 0 (w.heap.size + 1 + 1) 0 h10 st_Int (fun W3 S2 G2 => hKK _ _ ?_) rfl
 replace S := S2; clear S2 G2 hKK KK h10
 simp only [u0x] at S
 refine wpList_nil ?_
 go_wp2_with fail
 obtain ⟨s90x, a90x, n90x, c90x, b90x, h90x⟩ := S.at 0 (w.heap.size + 1 + 1) 0 (IsI k z1) rfl; have L90xa : World.cell? W3 ⟨w.heap.size + 1 + 1, 0, none⟩ = some (.bool s90x) := b90x.c0; have L90xb : World.cell? W3 ⟨w.heap.size + 1 + 1, 1, none⟩ = some (.slice a90x n90x c90x) := b90x.c1
 exact bodyPost_ret (v := .agg #[.bool s90x, .slice a90x n90x c90x]) (by simp [results, Tryz.results145, go_sem, L90xa, L90xb]) rfl (⟨_, rfl, S.ext, h90x⟩)

theorem greaterv_f {k : Nat} {z1 z2 : Int} {x y : Value} {w : World} (hx : IsI k z1 x w) (hy : IsI k z2 y w) (hk : k ≤ 268435456) : Calls Tryz.prog 145 #[x, y] w (Ret w (IsI k (max z1 z2))) := by
 by_cases h : z1 < z2
 ·rw [show max z1 z2 = z2 by omega]
  exact greaterv_y hx hy (hid hk) (hid rfl) (hid (by unfold cmpI; (repeat' split) <;> omega))
 ·rw [show max z1 z2 = z1 by omega]
  exact greaterv_n hx hy (hid hk) (hid rfl) (hid (by unfold cmpI; (repeat' split) <;> omega))

set_option maxRecDepth 100000 in
set_option maxHeartbeats 4000000 in
theorem exact_f {k : Nat} {z : Int} {x : Value} {w : World} (hx : IsI k z x w) : Calls Tryz.prog 109 #[x] w (Ret w (IsKn k z z true)) := by
 obtain ⟨s, a, n, c, rfl, h⟩ := hx
 obtain ⟨W, hW, E, B1, B2⟩ : ∃ W, W = (w.alloc (.cells #[.bool s, .slice a n c] 28)).alloc (.cells #[.bool false, .slice none 0 0, .bool false, .slice none 0 0, .bool false] 176) ∧ Ext w W ∧ Bk W w.heap.size [.bool s, .slice a n c] ∧ Bk W (w.heap.size + 1) [.bool false, .slice none 0 0, .bool false, .slice none 0 0, .bool false] :=
  ⟨_, rfl, ((Ext.refl w).alloc _).alloc _, (Bk.new w _ _).ext ((Ext.refl _).alloc _), Bk.newE _ _ (by simp) _ _⟩
 have h1 : IsI k z (.agg #[.bool s, .slice a n c]) W := ⟨_, _, _, _, rfl, h.ext E⟩
 clear h
 go_enter Tryz.func109, Tryz.ntmps109
 go_upto_region 1 with (fail)
 rw [← hW]
 clear hW
 refine rgs 3 [some 3, some 4, some 5] [IsI k z, IsI k z, IsKn k z z true] [] ?_ ?_ (hst := by repeat' (first | exact trivial | exact IsKn.stb _ _ _ _ | exact IsI.stb _ _ | apply And.intro))
 ·refine Rc (lvI 0 B1 h1 ld_Int (Od.lit 1)) ?_
  refine Rc (lvI 0 B1 h1 ld_Int (Od.lit 1)) ?_
  refine Rc (bkf (Od.loc 0 3) (Od.loc 1 4) Od.con bd_Kn3) ?_
  exact RgAll.nil
 intro v W1 e1 hΦ _
 replace E := E.trans e1
 replace B2 := B2.ext e1
 obtain ⟨s1, a1, n1, c1, s2, a2, n2, c2, hv, g1, g2⟩ := hΦ 2 (by decide)
 simp only [layL, Act.put, uAx, u0x, u1x, Nat.reduceAdd]
 rw [hv]
 clear hv hΦ e1 B1 h1
 refine stL fun K hK => ?_
 refine stV (us := [.bool s1, .slice a1 n1 c1, .bool s2, .slice a2 n2 c2, .bool true]) B2 st_Kn rfl rfl nw5 E (by omega) (fun W2 B3 E2 G2 _ _ => hK _ _ ?_)
 refine wpList_nil ?_
 have d0 := B3.c 0 _ rfl; have d1 := B3.c 1 _ rfl; have d2 := B3.c 2 _ rfl; have d3 := B3.c 3 _ rfl; have d4 := B3.c 4 _ rfl
 go_wp2_with fail
 exact bodyPost_ret (v := .agg #[.bool s1, .slice a1 n1 c1, .bool s2, .slice a2 n2 c2, .bool true]) (by simp [results, Tryz.results109, go_sem, d0, d1, d2, d3, d4]) rfl ⟨_, rfl, E2, _, _, _, _, _, _, _, _, rfl, IsI.gstb _ _ _ _ _ G2 g1, IsI.gstb _ _ _ _ _ G2 g2⟩

/-- What is known of a number: from where, to where, whether that is final. -/
structure Kn where
 lo : Int
 hi : Int
 fin : Bool
abbrev IsK (k : Nat) (q : Kn) : Value → World → Prop := IsKn k q.lo q.hi q.fin
def truthV (a b : Bool) : Kn := if a then ⟨1, 1, true⟩ else if b then ⟨0, 0, true⟩ else ⟨0, 1, false⟩
theorem box_kn (w : World) : Bk (w.alloc (.cells #[.bool false, .slice none 0 0, .bool false, .slice none 0 0, .bool false] 176)) w.heap.size [.bool false, .slice none 0 0, .bool false, .slice none 0 0, .bool false] := Bk.new w _ _

set_option maxRecDepth 100000 in
set_option maxHeartbeats 4000000 in
theorem truth_1 (w : World) (b : Bool) : Calls Tryz.prog 149 #[.bool true, .bool b] w (Ret w (IsKn 2 1 1 true)) := by
 obtain ⟨W, hW, E, B2⟩ : ∃ W, W = w.alloc (.cells #[.bool false, .slice none 0 0, .bool false, .slice none 0 0, .bool false] 176) ∧ Ext w W ∧ Bk W w.heap.size [.bool false, .slice none 0 0, .bool false, .slice none 0 0, .bool false] :=
  ⟨_, rfl, (Ext.refl w).alloc _, box_kn w⟩
 go_enter Tryz.func149, Tryz.ntmps149
 go_upto_region 2 with (fail)
 rw [← hW]
 clear hW
 refine rgs 2 [some 7, some 8] [IsI 2 1, IsKn 2 1 1 true] [] ?_ ?_ (hst := by repeat' (first | exact trivial | exact IsKn.stb _ _ _ _ | exact IsI.stb _ _ | apply And.intro))
 ·refine Rc (cl1 (en Tryz.func110) Od.con (fun x0 w' hE d0 => by { obtain rfl : x0 = .int .i64 1 := d0; exact of_f w' 1 (by decide) })) ?_
  refine Rc (cl1 (en Tryz.func109) (Od.lc (Φ := IsI 2 1) 0 7) (fun x0 w' hE d0 => exact_f d0)) ?_
  exact RgAll.nil
 intro v W1 e1 hΦ _
 replace E := E.trans e1
 replace B2 := B2.ext e1
 obtain ⟨s1, a1, n1, c1, s2, a2, n2, c2, hv, g1, g2⟩ := hΦ 1 (by decide)
 simp only [layL, Act.put, uAx, u0x, u1x, Nat.reduceAdd]
 rw [hv]
 clear hv hΦ e1
 refine stL fun K hK => ?_
 refine stV (us := [.bool s1, .slice a1 n1 c1, .bool s2, .slice a2 n2 c2, .bool true]) B2 st_Kn rfl rfl nw5 E (by omega) (fun W2 B3 E2 G2 _ _ => hK _ _ ?_)
 refine wpList_nil ?_
 have d0 := B3.c 0 _ rfl; have d1 := B3.c 1 _ rfl; have d2 := B3.c 2 _ rfl; have d3 := B3.c 3 _ rfl; have d4 := B3.c 4 _ rfl
 go_wp2_with fail
 exact bodyPost_ret (v := .agg #[.bool s1, .slice a1 n1 c1, .bool s2, .slice a2 n2 c2, .bool true]) (by simp [results, Tryz.results149, go_sem, d0, d1, d2, d3, d4]) rfl ⟨_, rfl, E2, _, _, _, _, _, _, _, _, rfl, IsI.gstb _ _ _ _ _ G2 g1, IsI.gstb _ _ _ _ _ G2 g2⟩

set_option maxRecDepth 100000 in
set_option maxHeartbeats 4000000 in
theorem truth_0 (w : World) : Calls Tryz.prog 149 #[.bool false, .bool true] w (Ret w (IsKn 2 0 0 true)) := by
 obtain ⟨W, hW, E, B2⟩ : ∃ W, W = w.alloc (.cells #[.bool false, .slice none 0 0, .bool false, .slice none 0 0, .bool false] 176) ∧ Ext w W ∧ Bk W w.heap.size [.bool false, .slice none 0 0, .bool false, .slice none 0 0, .bool false] :=
  ⟨_, rfl, (Ext.refl w).alloc _, box_kn w⟩
 go_enter Tryz.func149, Tryz.ntmps149
 go_upto_region 4 with (fail)
 rw [← hW]
 clear hW
 refine rgs 2 [some 11, some 12] [IsI 2 0, IsKn 2 0 0 true] [] ?_ ?_ (hst := by repeat' (first | exact trivial | exact IsKn.stb _ _ _ _ | exact IsI.stb _ _ | apply And.intro))
 ·refine Rc (cl1 (en Tryz.func110) Od.con (fun x0 w' hE d0 => by { obtain rfl : x0 = .int .i64 0 := d0; exact of_f w' 0 (by decide) })) ?_
  refine Rc (cl1 (en Tryz.func109) (Od.lc (Φ := IsI 2 0) 0 11) (fun x0 w' hE d0 => exact_f d0)) ?_
  exact RgAll.nil
 intro v W1 e1 hΦ _
 replace E := E.trans e1
 replace B2 := B2.ext e1
 obtain ⟨s1, a1, n1, c1, s2, a2, n2, c2, hv, g1, g2⟩ := hΦ 1 (by decide)
 simp only [layL, Act.put, uAx, u0x, u1x, Nat.reduceAdd]
 rw [hv]
 clear hv hΦ e1
 refine stL fun K hK => ?_
 refine stV (us := [.bool s1, .slice a1 n1 c1, .bool s2, .slice a2 n2 c2, .bool true]) B2 st_Kn rfl rfl nw5 E (by omega) (fun W2 B3 E2 G2 _ _ => hK _ _ ?_)
 refine wpList_nil ?_
 have d0 := B3.c 0 _ rfl; have d1 := B3.c 1 _ rfl; have d2 := B3.c 2 _ rfl; have d3 := B3.c 3 _ rfl; have d4 := B3.c 4 _ rfl
 go_wp2_with fail
 exact bodyPost_ret (v := .agg #[.bool s1, .slice a1 n1 c1, .bool s2, .slice a2 n2 c2, .bool true]) (by simp [results, Tryz.results149, go_sem, d0, d1, d2, d3, d4]) rfl ⟨_, rfl, E2, _, _, _, _, _, _, _, _, rfl, IsI.gstb _ _ _ _ _ G2 g1, IsI.gstb _ _ _ _ _ G2 g2⟩

set_option maxRecDepth 100000 in
set_option maxHeartbeats 4000000 in
theorem truth_n (w : World) : Calls Tryz.prog 149 #[.bool false, .bool false] w (Ret w (IsKn 2 0 1 false)) := by
 obtain ⟨W, hW, E, B2⟩ : ∃ W, W = w.alloc (.cells #[.bool false, .slice none 0 0, .bool false, .slice none 0 0, .bool false] 176) ∧ Ext w W ∧ Bk W w.heap.size [.bool false, .slice none 0 0, .bool false, .slice none 0 0, .bool false] :=
  ⟨_, rfl, (Ext.refl w).alloc _, box_kn w⟩
 go_enter Tryz.func149, Tryz.ntmps149
 go_upto_region 5 with (fail)
 rw [← hW]
 clear hW
 refine rgs 3 [some 13, some 14, some 15] [IsI 2 0, IsI 2 1, IsKn 2 0 1 false] [] ?_ ?_ (hst := by repeat' (first | exact trivial | exact IsKn.stb _ _ _ _ | exact IsI.stb _ _ | apply And.intro))
 ·refine Rc (cl1 (en Tryz.func110) Od.con (fun x0 w' hE d0 => by { obtain rfl : x0 = .int .i64 0 := d0; exact of_f w' 0 (by decide) })) ?_
  refine Rc (cl1 (en Tryz.func110) Od.con (fun x0 w' hE d0 => by { obtain rfl : x0 = .int .i64 1 := d0; exact of_f w' 1 (by decide) })) ?_
  refine Rc (bkn (Od.loc 0 13) (Od.loc 1 14) bd_Kn) ?_
  exact RgAll.nil
 intro v W1 e1 hΦ _
 replace E := E.trans e1
 replace B2 := B2.ext e1
 obtain ⟨s1, a1, n1, c1, s2, a2, n2, c2, hv, g1, g2⟩ := hΦ 2 (by decide)
 simp only [layL, Act.put, uAx, u0x, u1x, Nat.reduceAdd]
 rw [hv]
 clear hv hΦ e1
 refine stL fun K hK => ?_
 refine stV (us := [.bool s1, .slice a1 n1 c1, .bool s2, .slice a2 n2 c2, .bool false]) B2 st_Kn rfl rfl nw5 E (by omega) (fun W2 B3 E2 G2 _ _ => hK _ _ ?_)
 refine wpList_nil ?_
 have d0 := B3.c 0 _ rfl; have d1 := B3.c 1 _ rfl; have d2 := B3.c 2 _ rfl; have d3 := B3.c 3 _ rfl; have d4 := B3.c 4 _ rfl
 go_wp2_with fail
 exact bodyPost_ret (v := .agg #[.bool s1, .slice a1 n1 c1, .bool s2, .slice a2 n2 c2, .bool false]) (by simp [results, Tryz.results149, go_sem, d0, d1, d2, d3, d4]) rfl ⟨_, rfl, E2, _, _, _, _, _, _, _, _, rfl, IsI.gstb _ _ _ _ _ G2 g1, IsI.gstb _ _ _ _ _ G2 g2⟩
theorem truth_f (w : World) (a b : Bool) : Calls Tryz.prog 149 #[.bool a, .bool b] w (Ret w (IsK 2 (truthV a b))) := by
 cases a
 ·cases b
  ·exact truth_n w
  ·exact truth_0 w
 ·exact truth_1 w b

end Go.Proofs.YtkeikfekkdplgaaGreatDoor
