/-
 The reference of package density: Class; package density: Class of what is refused. (Printed by wip/gen/den42.py.)
-/
import Derived.Test.YtknffgdbdadpcaaGreatDoorDen41
namespace Go.Proofs.YtknffgdbdadpcaaGreatDoor
open Go Go.RowKit

set_option maxRecDepth 100000 in
set_option maxHeartbeats 4000000 in
theorem Class_d {k1 : Nat} {zd : Int} {x : Value} {w : World} (hx : IsI k1 zd x w) (HK : Hid (k1 ≤ 162)) (HDE : Hid (dE zd = 5)) : Calls Tryz.prog 18 #[x] w (Ret w (IsT2 (IsV auNil) (IsV (.int .i64 5)))) := by
 obtain ⟨s1, a1, n1, c1, rfl, h1⟩ := hx
 have h1 : IsI _ _ _ w := ⟨_, _, _, _, rfl, h1⟩
 obtain ⟨W, hW, S, AB⟩ : ∃ W, W = (w.alloc (.cells #[.bool s1, .slice a1 n1 c1] 33)).alloc (.cells #[.slice none 0 0, .bool false, .slice none 0 0, .bool false, .slice none 0 0] 48) ∧ Sto w W [((w.heap.size, 0), IsI k1 zd)] ∧ AuBox W (w.heap.size + 1) := ⟨_, rfl, (((Sto.start w).new1 (w.heap.size) (by simp) s1 a1 n1 c1 33 (IsI k1 zd) (IsI.gstb _ _) (h1)).mono ((Ext.refl _).alloc _)), AuBox.newE _ _ (by simp)⟩
 clear h1
 have EA := Ext.refl W
 go_enter Tryz.func18, Tryz.ntmps18
 go_upto_region 1 with (fail)
 rw [← hW]
 clear hW
 refine rg 10 [some 14, some 15, some 16, some 17, some 18, some 19, some 20, some 21, some 22, some 13] [IsI k1 zd, IsV (.int .i64 5), IsV (.bool true), IsV (.bool true), IsV (undef), IsV (undef), IsV (undef), IsV (undef), IsV (.bool true), IsV (.bool true)] [] 0 ?_ ?_
 ·refine Rc (ldI S 0 (w.heap.size) 0 (Od.lit 1) ld_Int) ?_
  refine Rc (cl1 (en Tryz.func61) (Od.lc (Φ := IsI k1 zd) 0 14) (fun x0 w' hE d0 => (by have hh := dref_g d0 (by have := HK.out; omega); rw [HDE.out] at hh; exact hh))) ?_
  refine Rc (bn (r := .bool true) (Od.loc 1 15) Od.con (hr := fun w => by go_simp)) ?_
  refine Rc (mv (Od.lc 2 16)) ?_
  refine RcN 3 17 true ?_
  refine RcN 3 17 true ?_
  refine RcN 3 17 true ?_
  refine RcN 3 17 true ?_
  refine Rc (pk (Od.loc 3 17) Od.con) ?_
  refine Rc (mv (Od.lc 8 22)) ?_
  exact RgAll.nil
 intro v W1 e1 hΦ _
 replace S := S.mono e1
 replace EA := EA.trans e1
 have v9 : v 9 = .bool true := hΦ 9 (by decide)
 simp only [layL, Act.put, uAx, u0x, u1x, Nat.reduceAdd]
 rw [v9]
 clear v9 hΦ e1
 refine wpAny_done (by kernel_rfl) ?_ _
 go_upto_region 2 with (fail)
 have AB9 := AB.ext EA
 have M0 := AB9.m0
 have M1 := AB9.m1
 have M2 := AB9.m2
 have M3 := AB9.m3
 have M4 := AB9.m4
 have N0 := AB9.f 0
 have N1 := AB9.f 1
 have N2 := AB9.f 2
 have N3 := AB9.f 3
 have N4 := AB9.f 4
 have HE := hid S.ext
 clear S EA AB
 go_wp2_with fail
 obtain ⟨W9, hW9, hAt, hbel, _, _⟩ := au_put AB9 none 0 0 false none 0 0 false none 0 0
 rw [hW9]
 have c0 := hAt.m0
 have c1 := hAt.m1
 have c2 := hAt.m2
 have c3 := hAt.m3
 have c4 := hAt.m4
 exact bodyPost_ret (v := .tuple #[auNil, .int .i64 5]) (by simp [results, Tryz.results18, go_sem, c0, c1, c2, c3, c4, auNil]) rfl ⟨_, rfl, hbel _ _ HE.out (by omega), _, _, rfl, rfl, rfl⟩

set_option maxRecDepth 100000 in
set_option maxHeartbeats 4000000 in
theorem Class_b {k1 : Nat} {zd e0 : Int} {x : Value} {w : World} (hx : IsI k1 zd x w) (HK : Hid (k1 ≤ 162)) (HDE : Hid (dE zd = e0)) (HE0 : Hid ((e0 == 5) = false)) {c4 : Int} (HC4 : Hid (cmpI zd (-4) = c4)) (HC4B : Hid (decide (0 ≤ c4) = false)) {c9 : Int} (HC9 : Hid (cmpI zd (-4096) = c9)) (HC9B : Hid (decide (c9 < 0) = true)) : Calls Tryz.prog 18 #[x] w (Ret w (IsT2 (IsV auNil) (IsV (.int .i64 2)))) := by
 obtain ⟨s1, a1, n1, c1, rfl, h1⟩ := hx
 have h1 : IsI _ _ _ w := ⟨_, _, _, _, rfl, h1⟩
 obtain ⟨W, hW, S, AB⟩ : ∃ W, W = (w.alloc (.cells #[.bool s1, .slice a1 n1 c1] 33)).alloc (.cells #[.slice none 0 0, .bool false, .slice none 0 0, .bool false, .slice none 0 0] 48) ∧ Sto w W [((w.heap.size, 0), IsI k1 zd)] ∧ AuBox W (w.heap.size + 1) := ⟨_, rfl, (((Sto.start w).new1 (w.heap.size) (by simp) s1 a1 n1 c1 33 (IsI k1 zd) (IsI.gstb _ _) (h1)).mono ((Ext.refl _).alloc _)), AuBox.newE _ _ (by simp)⟩
 clear h1
 have EA := Ext.refl W
 go_enter Tryz.func18, Tryz.ntmps18
 go_upto_region 1 with (fail)
 rw [← hW]
 clear hW
 refine rg 10 [some 14, some 15, some 16, some 17, some 18, some 19, some 20, some 21, some 22, some 13] [IsI k1 zd, IsV (.int .i64 e0), IsV (.bool false), IsV (.bool false), IsI k1 zd, IsI 2 (-4), IsV (.int .i64 c4), IsV (.bool false), IsV (.bool false), IsV (.bool false)] [] 0 ?_ ?_
 ·refine Rc (ldI S 0 (w.heap.size) 0 (Od.lit 1) ld_Int) ?_
  refine Rc (cl1 (en Tryz.func61) (Od.lc (Φ := IsI k1 zd) 0 14) (fun x0 w' hE d0 => (by have hh := dref_g d0 (by have := HK.out; omega); rw [HDE.out] at hh; exact hh))) ?_
  refine Rc (bn (r := .bool false) (Od.loc 1 15) Od.con (hr := fun w => by have hx9 := HE0.out; go_simp)) ?_
  refine Rc (mv (Od.lc 2 16)) ?_
  refine RcG 3 17 false (ldI S 0 (w.heap.size) 0 (Od.lit 1) ld_Int) ?_
  refine RcG 3 17 false (cl1 (en Tryz.func41) Od.con (fun x0 w' hE d0 => by { obtain rfl : x0 = .int .i64 (-4) := d0; exact Of_f _ (-4) (by decide) (by decide) })) ?_
  refine RcG 3 17 false (cl2 (en Tryz.func52) (Od.lc (Φ := IsI k1 zd) 4 18) (Od.lc (Φ := IsI 2 (-4)) 5 19) (fun x0 x1 w' hE d0 d1 => Calls.mono (Cmp_f d0 d1 (by have := HK.out; omega) (by decide)) fun _ _ h => h.int HC4.out)) ?_
  refine RcG 3 17 false (bn (r := .bool false) (Od.loc 6 20) Od.con (hr := fun w => by have hx9 := HC4B.out; go_simp)) ?_
  refine Rc (pk (Od.loc 3 17) (Od.lc 7 21)) ?_
  refine Rc (mv (Od.lc 8 22)) ?_
  exact RgAll.nil
 intro v W1 e1 hΦ _
 replace S := S.mono e1
 replace EA := EA.trans e1
 have v9 : v 9 = .bool false := hΦ 9 (by decide)
 simp only [layL, Act.put, uAx, u0x, u1x, Nat.reduceAdd]
 rw [v9]
 clear v9 hΦ e1
 refine wpAny_done (by kernel_rfl) ?_ _
 go_upto_region 3 with (fail)
 refine rg 5 [some 25, some 26, some 27, some 28, some 24] [IsI k1 zd, IsI 2 (-4096), IsV (.int .i64 c9), IsV (.bool true), IsV (.bool true)] [] 0 ?_ ?_
 ·refine Rc (ldI S 0 (w.heap.size) 0 (Od.lit 1) ld_Int) ?_
  refine Rc (cl1 (en Tryz.func41) Od.con (fun x0 w' hE d0 => by { obtain rfl : x0 = .int .i64 (-4096) := d0; exact Of_f _ (-4096) (by decide) (by decide) })) ?_
  refine Rc (cl2 (en Tryz.func52) (Od.lc (Φ := IsI k1 zd) 0 25) (Od.lc (Φ := IsI 2 (-4096)) 1 26) (fun x0 x1 w' hE d0 d1 => Calls.mono (Cmp_f d0 d1 (by have := HK.out; omega) (by decide)) fun _ _ h => h.int HC9.out)) ?_
  refine Rc (bn (r := .bool true) (Od.loc 2 27) Od.con (hr := fun w => by have hx9 := HC9B.out; go_simp)) ?_
  refine Rc (mv (Od.lc 3 28)) ?_
  exact RgAll.nil
 intro v W2 e1 hΦ _
 replace S := S.mono e1
 replace EA := EA.trans e1
 have v4 : v 4 = .bool true := hΦ 4 (by decide)
 simp only [layL, Act.put, uAx, u0x, u1x, Nat.reduceAdd]
 rw [v4]
 clear v4 hΦ e1
 refine wpAny_done (by kernel_rfl) ?_ _
 go_upto_region 4 with (fail)
 have AB9 := AB.ext EA
 have M0 := AB9.m0
 have M1 := AB9.m1
 have M2 := AB9.m2
 have M3 := AB9.m3
 have M4 := AB9.m4
 have N0 := AB9.f 0
 have N1 := AB9.f 1
 have N2 := AB9.f 2
 have N3 := AB9.f 3
 have N4 := AB9.f 4
 have HE := hid S.ext
 clear S EA AB
 go_wp2_with fail
 obtain ⟨W9, hW9, hAt, hbel, _, _⟩ := au_put AB9 none 0 0 false none 0 0 false none 0 0
 rw [hW9]
 have c0 := hAt.m0
 have c1 := hAt.m1
 have c2 := hAt.m2
 have c3 := hAt.m3
 have c4 := hAt.m4
 exact bodyPost_ret (v := .tuple #[auNil, .int .i64 2]) (by simp [results, Tryz.results18, go_sem, c0, c1, c2, c3, c4, auNil]) rfl ⟨_, rfl, hbel _ _ HE.out (by omega), _, _, rfl, rfl, rfl⟩

set_option maxRecDepth 100000 in
set_option maxHeartbeats 4000000 in
theorem rClass_d {k1 : Nat} {zd : Int} {x : Value} {w : World} (hx : IsI k1 zd x w) (HK : Hid (k1 ≤ 162)) (HDE : Hid (dE zd = 5)) : Calls Tryz.prog 19 #[x] w (Ret w (IsT2 (IsV auNil) (IsV (.int .i64 5)))) := by
 obtain ⟨s1, a1, n1, c1, rfl, h1⟩ := hx
 have h1 : IsI _ _ _ w := ⟨_, _, _, _, rfl, h1⟩
 obtain ⟨W, hW, S, AB⟩ : ∃ W, W = (w.alloc (.cells #[.bool s1, .slice a1 n1 c1] 33)).alloc (.cells #[.slice none 0 0, .bool false, .slice none 0 0, .bool false, .slice none 0 0] 48) ∧ Sto w W [((w.heap.size, 0), IsI k1 zd)] ∧ AuBox W (w.heap.size + 1) := ⟨_, rfl, (((Sto.start w).new1 (w.heap.size) (by simp) s1 a1 n1 c1 33 (IsI k1 zd) (IsI.gstb _ _) (h1)).mono ((Ext.refl _).alloc _)), AuBox.newE _ _ (by simp)⟩
 clear h1
 have EA := Ext.refl W
 go_enter Tryz.func19, Tryz.ntmps19
 go_upto_region 1 with (fail)
 rw [← hW]
 clear hW
 refine rg 9 [some 11, some 12, some 13, some 14, some 15, some 16, some 17, some 18, some 19] [IsI k1 zd, IsV (.int .i64 5), IsV (.bool true), IsV (.bool true), IsV (undef), IsV (undef), IsV (undef), IsV (undef), IsV (.bool true)] [] 0 ?_ ?_
 ·refine Rc (ldI S 0 (w.heap.size) 0 (Od.lit 1) ld_Int) ?_
  refine Rc (cl1 (en Tryz.func63) (Od.lc (Φ := IsI k1 zd) 0 11) (fun x0 w' hE d0 => (by have hh := rref_g d0 (by have := HK.out; omega); rw [HDE.out] at hh; exact hh))) ?_
  refine Rc (bn (r := .bool true) (Od.loc 1 12) Od.con (hr := fun w => by go_simp)) ?_
  refine Rc (mv (Od.lc 2 13)) ?_
  refine RcN 3 14 true ?_
  refine RcN 3 14 true ?_
  refine RcN 3 14 true ?_
  refine RcN 3 14 true ?_
  refine Rc (pk (Od.loc 3 14) Od.con) ?_
  exact RgAll.nil
 intro v W1 e1 hΦ _
 replace S := S.mono e1
 replace EA := EA.trans e1
 have v8 : v 8 = .bool true := hΦ 8 (by decide)
 simp only [layL, Act.put, uAx, u0x, u1x, Nat.reduceAdd]
 rw [v8]
 clear v8 hΦ e1
 refine wpAny_done (by kernel_rfl) ?_ _
 go_upto_region 2 with (fail)
 have AB9 := AB.ext EA
 have M0 := AB9.m0
 have M1 := AB9.m1
 have M2 := AB9.m2
 have M3 := AB9.m3
 have M4 := AB9.m4
 have N0 := AB9.f 0
 have N1 := AB9.f 1
 have N2 := AB9.f 2
 have N3 := AB9.f 3
 have N4 := AB9.f 4
 have HE := hid S.ext
 clear S EA AB
 go_wp2_with fail
 obtain ⟨W9, hW9, hAt, hbel, _, _⟩ := au_put AB9 none 0 0 false none 0 0 false none 0 0
 rw [hW9]
 have c0 := hAt.m0
 have c1 := hAt.m1
 have c2 := hAt.m2
 have c3 := hAt.m3
 have c4 := hAt.m4
 exact bodyPost_ret (v := .tuple #[auNil, .int .i64 5]) (by simp [results, Tryz.results19, go_sem, c0, c1, c2, c3, c4, auNil]) rfl ⟨_, rfl, hbel _ _ HE.out (by omega), _, _, rfl, rfl, rfl⟩

set_option maxRecDepth 100000 in
set_option maxHeartbeats 4000000 in
theorem rClass_a {k1 : Nat} {zd e0 : Int} {x : Value} {w : World} (hx : IsI k1 zd x w) (HK : Hid (k1 ≤ 162)) (HDE : Hid (dE zd = e0)) (HE0 : Hid ((e0 == 5) = false)) {c4 : Int} (HC4 : Hid (cmpI zd (-4) = c4)) (HC4B : Hid (decide (0 ≤ c4) = true)) : Calls Tryz.prog 19 #[x] w (Ret w (IsT2 (IsV auNil) (IsV (.int .i64 5)))) := by
 obtain ⟨s1, a1, n1, c1, rfl, h1⟩ := hx
 have h1 : IsI _ _ _ w := ⟨_, _, _, _, rfl, h1⟩
 obtain ⟨W, hW, S, AB⟩ : ∃ W, W = (w.alloc (.cells #[.bool s1, .slice a1 n1 c1] 33)).alloc (.cells #[.slice none 0 0, .bool false, .slice none 0 0, .bool false, .slice none 0 0] 48) ∧ Sto w W [((w.heap.size, 0), IsI k1 zd)] ∧ AuBox W (w.heap.size + 1) := ⟨_, rfl, (((Sto.start w).new1 (w.heap.size) (by simp) s1 a1 n1 c1 33 (IsI k1 zd) (IsI.gstb _ _) (h1)).mono ((Ext.refl _).alloc _)), AuBox.newE _ _ (by simp)⟩
 clear h1
 have EA := Ext.refl W
 go_enter Tryz.func19, Tryz.ntmps19
 go_upto_region 1 with (fail)
 rw [← hW]
 clear hW
 refine rg 9 [some 11, some 12, some 13, some 14, some 15, some 16, some 17, some 18, some 19] [IsI k1 zd, IsV (.int .i64 e0), IsV (.bool false), IsV (.bool false), IsI k1 zd, IsI 2 (-4), IsV (.int .i64 c4), IsV (.bool true), IsV (.bool true)] [] 0 ?_ ?_
 ·refine Rc (ldI S 0 (w.heap.size) 0 (Od.lit 1) ld_Int) ?_
  refine Rc (cl1 (en Tryz.func63) (Od.lc (Φ := IsI k1 zd) 0 11) (fun x0 w' hE d0 => (by have hh := rref_g d0 (by have := HK.out; omega); rw [HDE.out] at hh; exact hh))) ?_
  refine Rc (bn (r := .bool false) (Od.loc 1 12) Od.con (hr := fun w => by have hx9 := HE0.out; go_simp)) ?_
  refine Rc (mv (Od.lc 2 13)) ?_
  refine RcG 3 14 false (ldI S 0 (w.heap.size) 0 (Od.lit 1) ld_Int) ?_
  refine RcG 3 14 false (cl1 (en Tryz.func22) Od.con (fun x0 w' hE d0 => by { obtain rfl : x0 = .int .i64 (-4) := d0; exact ROf_f _ (-4) (by decide) (by decide) })) ?_
  refine RcG 3 14 false (cl2 (en Tryz.func31) (Od.lc (Φ := IsI k1 zd) 4 15) (Od.lc (Φ := IsI 2 (-4)) 5 16) (fun x0 x1 w' hE d0 d1 => Calls.mono (RCmp_f d0 d1 (by have := HK.out; omega) (by decide)) fun _ _ h => h.int HC4.out)) ?_
  refine RcG 3 14 false (bn (r := .bool true) (Od.loc 6 17) Od.con (hr := fun w => by have hx9 := HC4B.out; go_simp)) ?_
  refine Rc (pk (Od.loc 3 14) (Od.lc 7 18)) ?_
  exact RgAll.nil
 intro v W1 e1 hΦ _
 replace S := S.mono e1
 replace EA := EA.trans e1
 have v8 : v 8 = .bool true := hΦ 8 (by decide)
 simp only [layL, Act.put, uAx, u0x, u1x, Nat.reduceAdd]
 rw [v8]
 clear v8 hΦ e1
 refine wpAny_done (by kernel_rfl) ?_ _
 go_upto_region 2 with (fail)
 have AB9 := AB.ext EA
 have M0 := AB9.m0
 have M1 := AB9.m1
 have M2 := AB9.m2
 have M3 := AB9.m3
 have M4 := AB9.m4
 have N0 := AB9.f 0
 have N1 := AB9.f 1
 have N2 := AB9.f 2
 have N3 := AB9.f 3
 have N4 := AB9.f 4
 have HE := hid S.ext
 clear S EA AB
 go_wp2_with fail
 obtain ⟨W9, hW9, hAt, hbel, _, _⟩ := au_put AB9 none 0 0 false none 0 0 false none 0 0
 rw [hW9]
 have c0 := hAt.m0
 have c1 := hAt.m1
 have c2 := hAt.m2
 have c3 := hAt.m3
 have c4 := hAt.m4
 exact bodyPost_ret (v := .tuple #[auNil, .int .i64 5]) (by simp [results, Tryz.results19, go_sem, c0, c1, c2, c3, c4, auNil]) rfl ⟨_, rfl, hbel _ _ HE.out (by omega), _, _, rfl, rfl, rfl⟩

set_option maxRecDepth 100000 in
set_option maxHeartbeats 4000000 in
theorem rClass_b {k1 : Nat} {zd e0 : Int} {x : Value} {w : World} (hx : IsI k1 zd x w) (HK : Hid (k1 ≤ 162)) (HDE : Hid (dE zd = e0)) (HE0 : Hid ((e0 == 5) = false)) {c4 : Int} (HC4 : Hid (cmpI zd (-4) = c4)) (HC4B : Hid (decide (0 ≤ c4) = false)) {c9 : Int} (HC9 : Hid (cmpI zd (-4096) = c9)) (HC9B : Hid (decide (c9 < 0) = true)) : Calls Tryz.prog 19 #[x] w (Ret w (IsT2 (IsV auNil) (IsV (.int .i64 2)))) := by
 obtain ⟨s1, a1, n1, c1, rfl, h1⟩ := hx
 have h1 : IsI _ _ _ w := ⟨_, _, _, _, rfl, h1⟩
 obtain ⟨W, hW, S, AB⟩ : ∃ W, W = (w.alloc (.cells #[.bool s1, .slice a1 n1 c1] 33)).alloc (.cells #[.slice none 0 0, .bool false, .slice none 0 0, .bool false, .slice none 0 0] 48) ∧ Sto w W [((w.heap.size, 0), IsI k1 zd)] ∧ AuBox W (w.heap.size + 1) := ⟨_, rfl, (((Sto.start w).new1 (w.heap.size) (by simp) s1 a1 n1 c1 33 (IsI k1 zd) (IsI.gstb _ _) (h1)).mono ((Ext.refl _).alloc _)), AuBox.newE _ _ (by simp)⟩
 clear h1
 have EA := Ext.refl W
 go_enter Tryz.func19, Tryz.ntmps19
 go_upto_region 1 with (fail)
 rw [← hW]
 clear hW
 refine rg 9 [some 11, some 12, some 13, some 14, some 15, some 16, some 17, some 18, some 19] [IsI k1 zd, IsV (.int .i64 e0), IsV (.bool false), IsV (.bool false), IsI k1 zd, IsI 2 (-4), IsV (.int .i64 c4), IsV (.bool false), IsV (.bool false)] [] 0 ?_ ?_
 ·refine Rc (ldI S 0 (w.heap.size) 0 (Od.lit 1) ld_Int) ?_
  refine Rc (cl1 (en Tryz.func63) (Od.lc (Φ := IsI k1 zd) 0 11) (fun x0 w' hE d0 => (by have hh := rref_g d0 (by have := HK.out; omega); rw [HDE.out] at hh; exact hh))) ?_
  refine Rc (bn (r := .bool false) (Od.loc 1 12) Od.con (hr := fun w => by have hx9 := HE0.out; go_simp)) ?_
  refine Rc (mv (Od.lc 2 13)) ?_
  refine RcG 3 14 false (ldI S 0 (w.heap.size) 0 (Od.lit 1) ld_Int) ?_
  refine RcG 3 14 false (cl1 (en Tryz.func22) Od.con (fun x0 w' hE d0 => by { obtain rfl : x0 = .int .i64 (-4) := d0; exact ROf_f _ (-4) (by decide) (by decide) })) ?_
  refine RcG 3 14 false (cl2 (en Tryz.func31) (Od.lc (Φ := IsI k1 zd) 4 15) (Od.lc (Φ := IsI 2 (-4)) 5 16) (fun x0 x1 w' hE d0 d1 => Calls.mono (RCmp_f d0 d1 (by have := HK.out; omega) (by decide)) fun _ _ h => h.int HC4.out)) ?_
  refine RcG 3 14 false (bn (r := .bool false) (Od.loc 6 17) Od.con (hr := fun w => by have hx9 := HC4B.out; go_simp)) ?_
  refine Rc (pk (Od.loc 3 14) (Od.lc 7 18)) ?_
  exact RgAll.nil
 intro v W1 e1 hΦ _
 replace S := S.mono e1
 replace EA := EA.trans e1
 have v8 : v 8 = .bool false := hΦ 8 (by decide)
 simp only [layL, Act.put, uAx, u0x, u1x, Nat.reduceAdd]
 rw [v8]
 clear v8 hΦ e1
 refine wpAny_done (by kernel_rfl) ?_ _
 go_upto_region 3 with (fail)
 refine rg 4 [some 21, some 22, some 23, some 24] [IsI k1 zd, IsI 2 (-4096), IsV (.int .i64 c9), IsV (.bool true)] [] 0 ?_ ?_
 ·refine Rc (ldI S 0 (w.heap.size) 0 (Od.lit 1) ld_Int) ?_
  refine Rc (cl1 (en Tryz.func22) Od.con (fun x0 w' hE d0 => by { obtain rfl : x0 = .int .i64 (-4096) := d0; exact ROf_f _ (-4096) (by decide) (by decide) })) ?_
  refine Rc (cl2 (en Tryz.func31) (Od.lc (Φ := IsI k1 zd) 0 21) (Od.lc (Φ := IsI 2 (-4096)) 1 22) (fun x0 x1 w' hE d0 d1 => Calls.mono (RCmp_f d0 d1 (by have := HK.out; omega) (by decide)) fun _ _ h => h.int HC9.out)) ?_
  refine Rc (bn (r := .bool true) (Od.loc 2 23) Od.con (hr := fun w => by have hx9 := HC9B.out; go_simp)) ?_
  exact RgAll.nil
 intro v W2 e1 hΦ _
 replace S := S.mono e1
 replace EA := EA.trans e1
 have v3 : v 3 = .bool true := hΦ 3 (by decide)
 simp only [layL, Act.put, uAx, u0x, u1x, Nat.reduceAdd]
 rw [v3]
 clear v3 hΦ e1
 refine wpAny_done (by kernel_rfl) ?_ _
 go_upto_region 4 with (fail)
 have AB9 := AB.ext EA
 have M0 := AB9.m0
 have M1 := AB9.m1
 have M2 := AB9.m2
 have M3 := AB9.m3
 have M4 := AB9.m4
 have N0 := AB9.f 0
 have N1 := AB9.f 1
 have N2 := AB9.f 2
 have N3 := AB9.f 3
 have N4 := AB9.f 4
 have HE := hid S.ext
 clear S EA AB
 go_wp2_with fail
 obtain ⟨W9, hW9, hAt, hbel, _, _⟩ := au_put AB9 none 0 0 false none 0 0 false none 0 0
 rw [hW9]
 have c0 := hAt.m0
 have c1 := hAt.m1
 have c2 := hAt.m2
 have c3 := hAt.m3
 have c4 := hAt.m4
 exact bodyPost_ret (v := .tuple #[auNil, .int .i64 2]) (by simp [results, Tryz.results19, go_sem, c0, c1, c2, c3, c4, auNil]) rfl ⟨_, rfl, hbel _ _ HE.out (by omega), _, _, rfl, rfl, rfl⟩

set_option maxRecDepth 100000 in
set_option maxHeartbeats 4000000 in
theorem rClass_n {k1 n : Nat} {e0 : Int} {x : Value} {w : World} (hx : IsI k1 (-((n : Nat) : Int)) x w) (HK : Hid (k1 ≤ 162)) (HNN : Hid (1 ≤ n ∧ n ≤ 4194304 ∧ (n % 4 = 0 ∨ n % 4 = 3))) (HDE : Hid (dE (-((n : Nat) : Int)) = e0)) (HE0 : Hid ((e0 == 5) = false)) {c4 : Int} (HC4 : Hid (cmpI (-((n : Nat) : Int)) (-4) = c4)) (HC4B : Hid (decide (0 ≤ c4) = false)) {c9 : Int} (HC9 : Hid (cmpI (-((n : Nat) : Int)) (-4096) = c9)) (HC9B : Hid (decide (c9 < 0) = false)) {L : Nat} (HL : Hid (L * L ≤ n ∧ n < (L + 1) * (L + 1))) (HCF : Hid (decide (((cdB n L : Nat) : Int) = 1) = false)) : Calls Tryz.prog 19 #[x] w (Ret w (IsT2 (IsV auNil) (IsV (.int .i64 5)))) := by
 obtain ⟨s1, a1, n1, c1, rfl, h1⟩ := hx
 have h1 : IsI _ _ _ w := ⟨_, _, _, _, rfl, h1⟩
 obtain ⟨W, hW, S, AB⟩ : ∃ W, W = (w.alloc (.cells #[.bool s1, .slice a1 n1 c1] 33)).alloc (.cells #[.slice none 0 0, .bool false, .slice none 0 0, .bool false, .slice none 0 0] 48) ∧ Sto w W [((w.heap.size, 0), IsI k1 (-((n : Nat) : Int)))] ∧ AuBox W (w.heap.size + 1) := ⟨_, rfl, (((Sto.start w).new1 (w.heap.size) (by simp) s1 a1 n1 c1 33 (IsI k1 (-((n : Nat) : Int))) (IsI.gstb _ _) (h1)).mono ((Ext.refl _).alloc _)), AuBox.newE _ _ (by simp)⟩
 clear h1
 have EA := Ext.refl W
 go_enter Tryz.func19, Tryz.ntmps19
 go_upto_region 1 with (fail)
 rw [← hW]
 clear hW
 refine rg 9 [some 11, some 12, some 13, some 14, some 15, some 16, some 17, some 18, some 19] [IsI k1 (-((n : Nat) : Int)), IsV (.int .i64 e0), IsV (.bool false), IsV (.bool false), IsI k1 (-((n : Nat) : Int)), IsI 2 (-4), IsV (.int .i64 c4), IsV (.bool false), IsV (.bool false)] [] 0 ?_ ?_
 ·refine Rc (ldI S 0 (w.heap.size) 0 (Od.lit 1) ld_Int) ?_
  refine Rc (cl1 (en Tryz.func63) (Od.lc (Φ := IsI k1 (-((n : Nat) : Int))) 0 11) (fun x0 w' hE d0 => (by have hh := rref_g d0 (by have := HK.out; omega); rw [HDE.out] at hh; exact hh))) ?_
  refine Rc (bn (r := .bool false) (Od.loc 1 12) Od.con (hr := fun w => by have hx9 := HE0.out; go_simp)) ?_
  refine Rc (mv (Od.lc 2 13)) ?_
  refine RcG 3 14 false (ldI S 0 (w.heap.size) 0 (Od.lit 1) ld_Int) ?_
  refine RcG 3 14 false (cl1 (en Tryz.func22) Od.con (fun x0 w' hE d0 => by { obtain rfl : x0 = .int .i64 (-4) := d0; exact ROf_f _ (-4) (by decide) (by decide) })) ?_
  refine RcG 3 14 false (cl2 (en Tryz.func31) (Od.lc (Φ := IsI k1 (-((n : Nat) : Int))) 4 15) (Od.lc (Φ := IsI 2 (-4)) 5 16) (fun x0 x1 w' hE d0 d1 => Calls.mono (RCmp_f d0 d1 (by have := HK.out; omega) (by decide)) fun _ _ h => h.int HC4.out)) ?_
  refine RcG 3 14 false (bn (r := .bool false) (Od.loc 6 17) Od.con (hr := fun w => by have hx9 := HC4B.out; go_simp)) ?_
  refine Rc (pk (Od.loc 3 14) (Od.lc 7 18)) ?_
  exact RgAll.nil
 intro v W1 e1 hΦ _
 replace S := S.mono e1
 replace EA := EA.trans e1
 have v8 : v 8 = .bool false := hΦ 8 (by decide)
 simp only [layL, Act.put, uAx, u0x, u1x, Nat.reduceAdd]
 rw [v8]
 clear v8 hΦ e1
 refine wpAny_done (by kernel_rfl) ?_ _
 go_upto_region 3 with (fail)
 refine rg 4 [some 21, some 22, some 23, some 24] [IsI k1 (-((n : Nat) : Int)), IsI 2 (-4096), IsV (.int .i64 c9), IsV (.bool false)] [] 0 ?_ ?_
 ·refine Rc (ldI S 0 (w.heap.size) 0 (Od.lit 1) ld_Int) ?_
  refine Rc (cl1 (en Tryz.func22) Od.con (fun x0 w' hE d0 => by { obtain rfl : x0 = .int .i64 (-4096) := d0; exact ROf_f _ (-4096) (by decide) (by decide) })) ?_
  refine Rc (cl2 (en Tryz.func31) (Od.lc (Φ := IsI k1 (-((n : Nat) : Int))) 0 21) (Od.lc (Φ := IsI 2 (-4096)) 1 22) (fun x0 x1 w' hE d0 d1 => Calls.mono (RCmp_f d0 d1 (by have := HK.out; omega) (by decide)) fun _ _ h => h.int HC9.out)) ?_
  refine Rc (bn (r := .bool false) (Od.loc 2 23) Od.con (hr := fun w => by have hx9 := HC9B.out; go_simp)) ?_
  exact RgAll.nil
 intro v W2 e1 hΦ _
 replace S := S.mono e1
 replace EA := EA.trans e1
 have v3 : v 3 = .bool false := hΦ 3 (by decide)
 simp only [layL, Act.put, uAx, u0x, u1x, Nat.reduceAdd]
 rw [v3]
 clear v3 hΦ e1
 refine wpAny_done (by kernel_rfl) ?_ _
 go_upto_region 5 with (fail)
 have hl := hid S.lt; have hw := S.ext.size
 have EAz := EA.size
 refine rgs 8 [some 27, some 28, some 26, some 29, some 30, some 31, some 4, some 5] [IsI k1 (-((n : Nat) : Int)), IsT3 (IsI 2 ((-((n / (cdB n L * cdB n L) : Nat) : Int)))) (IsI 2 (((cdB n L : Nat) : Int))) (IsV (.int .i64 0)), IsT3 (IsI 2 ((-((n / (cdB n L * cdB n L) : Nat) : Int)))) (IsI 2 (((cdB n L : Nat) : Int))) (IsV (.int .i64 0)), IsI 2 ((-((n / (cdB n L * cdB n L) : Nat) : Int))), IsI 2 (((cdB n L : Nat) : Int)), IsV (.int .i64 0), IsBo W2 1, IsBo W2 1] [6, 7] ?_ ?_
 ·refine Rc (ldI S 0 (w.heap.size) 0 (Od.lit 1) ld_Int) ?_
  refine Rc (cl1 (en Tryz.func64) (Od.lc (Φ := IsI k1 (-((n : Nat) : Int))) 0 27) (fun x0 w' hE d0 => rConductor_f d0 (by have := HK.out; omega) HNN.out HL.out)) ?_
  refine Rc (mv (Od.lc 1 28)) ?_
  refine Rc (ex (Od.loc 2 26) t30) ?_
  refine Rc (ex (Od.loc 2 26) t31) ?_
  refine Rc (ex (Od.loc 2 26) t32) ?_
  refine Rc (al al_Int) ?_
  refine Rc (al al_Int) ?_
  exact RgAll.nil
 intro v W3 e1 hΦ hne
 replace S := S.mono e1
 replace EA := EA.trans e1
 have h29 := hΦ 3 (by decide)
 have h30 := hΦ 4 (by decide)
 have v5 : v 5 = .int .i64 0 := hΦ 5 (by decide)
 obtain ⟨g4, v6, q2, b1, _⟩ := (hΦ 6 (by decide) : IsBo W2 1 (v 6) W3)
 replace S := S.addN 1 (ApartO.old hl.out q2) (Nat.le_trans hw q2) b1
 obtain ⟨g5, v7, q4, b3, _⟩ := (hΦ 7 (by decide) : IsBo W2 1 (v 7) W3)
 replace S := S.addN 1 (ApartO.cons (fun h => hne 6 7 (by decide) (by decide) (by decide) (by decide) (by decide) (by rw [v6, v7, h])) (ApartO.old hl.out q4)) (Nat.le_trans hw q4) b3
 simp only [newF, List.cons_append, List.nil_append] at S
 simp only [layL, Act.put, uAx, u0x, u1x, Nat.reduceAdd]
 rw [v5, v6, v7]
 clear b1 b3 hl hw hne v5 v6 v7 hΦ e1
 try simp only [List.drop_succ_cons, List.drop_zero]
 (with_reducible refine stL ?_ (by rfl)); intro KK hKK; refine stIe S 1 (g4) 0 h29 st_Int (fun W4 S2 G2 X2 => hKK _ _ ?_) rfl
 replace h30 := (IsI.gstb _ _) _ _ _ G2 h30
 replace EA := X2 _ EA (Nat.le_trans EAz q2); clear X2
 replace S := S2; clear S2 G2 hKK KK h29
 simp only [u0x, u1x] at S
 try simp only [List.drop_succ_cons, List.drop_zero]
 (with_reducible refine stL ?_ (by rfl)); intro KK hKK; refine stIe S 0 (g5) 0 h30 st_Int (fun W5 S2 G2 X2 => hKK _ _ ?_) rfl
 replace EA := X2 _ EA (Nat.le_trans EAz q4); clear X2
 replace S := S2; clear S2 G2 hKK KK h30
 simp only [u0x] at S
 refine wpList_step fun K hK => ?_; go_simp; refine hK _ _ ?_; clear hK K
 refine wpList_nil ?_
 go_upto_region 6 with (fail)
 refine rg 4 [some 32, some 33, some 34, some 35] [IsI 2 (((cdB n L : Nat) : Int)), IsI 2 1, IsV (.bool false), IsV (.bool true)] [] 0 ?_ ?_
 ·refine Rc (ldI S 0 (g5) 0 (Od.lit 5) ld_Int) ?_
  refine Rc (cl1 (en Tryz.func22) Od.con (fun x0 w' hE d0 => by { obtain rfl : x0 = .int .i64 1 := d0; exact ROf_f _ 1 (by decide) (by decide) })) ?_
  refine Rc (cl2 (en Tryz.func26) (Od.lc (Φ := IsI 2 (((cdB n L : Nat) : Int))) 0 32) (Od.lc (Φ := IsI 2 1) 1 33) (fun x0 x1 w' hE d0 d1 => (by have hh := Same_f d0 d1 (by decide); rw [HCF.out] at hh; exact hh))) ?_
  refine Rc (nt (Od.loc 2 34)) ?_
  exact RgAll.nil
 intro v W6 e1 hΦ _
 replace S := S.mono e1
 replace EA := EA.trans e1
 have v3 : v 3 = .bool true := hΦ 3 (by decide)
 simp only [layL, Act.put, uAx, u0x, u1x, Nat.reduceAdd]
 rw [v3]
 clear v3 hΦ e1
 refine wpAny_done (by kernel_rfl) ?_ _
 go_upto_region 7 with (fail)
 have AB9 := AB.ext EA
 have M0 := AB9.m0
 have M1 := AB9.m1
 have M2 := AB9.m2
 have M3 := AB9.m3
 have M4 := AB9.m4
 have N0 := AB9.f 0
 have N1 := AB9.f 1
 have N2 := AB9.f 2
 have N3 := AB9.f 3
 have N4 := AB9.f 4
 have HE := hid S.ext
 clear S EA AB
 go_wp2_with fail
 obtain ⟨W9, hW9, hAt, hbel, _, _⟩ := au_put AB9 none 0 0 false none 0 0 false none 0 0
 rw [hW9]
 have c0 := hAt.m0
 have c1 := hAt.m1
 have c2 := hAt.m2
 have c3 := hAt.m3
 have c4 := hAt.m4
 exact bodyPost_ret (v := .tuple #[auNil, .int .i64 5]) (by simp [results, Tryz.results19, go_sem, c0, c1, c2, c3, c4, auNil]) rfl ⟨_, rfl, hbel _ _ HE.out (by omega), _, _, rfl, rfl, rfl⟩

set_option maxRecDepth 100000 in
set_option maxHeartbeats 4000000 in
theorem rClass_k {k1 n : Nat} {e0 : Int} {x : Value} {w : World} (hx : IsI k1 (-((n : Nat) : Int)) x w) (HK : Hid (k1 ≤ 162)) (HNN : Hid (1 ≤ n ∧ n ≤ 4194304 ∧ (n % 4 = 0 ∨ n % 4 = 3))) (HDE : Hid (dE (-((n : Nat) : Int)) = e0)) (HE0 : Hid ((e0 == 5) = false)) {c4 : Int} (HC4 : Hid (cmpI (-((n : Nat) : Int)) (-4) = c4)) (HC4B : Hid (decide (0 ≤ c4) = false)) {c9 : Int} (HC9 : Hid (cmpI (-((n : Nat) : Int)) (-4096) = c9)) (HC9B : Hid (decide (c9 < 0) = false)) {L : Nat} (HL : Hid (L * L ≤ n ∧ n < (L + 1) * (L + 1))) (HCF : Hid (decide (((cdB n L : Nat) : Int) = 1) = true)) (HNB : Hid (n ≤ 4096)) (tn : ByteArray) (HTN : Hid (encS (textS (-((n : Nat) : Int))) = .string tn ∧ textE (-((n : Nat) : Int)) = 0 ∧ tn.size ≤ 1000)) : Calls Tryz.prog 19 #[x] w (Ret w (IsT2 (AuV ((⟨#[99, 58]⟩ : ByteArray) ++ tn) 2 1 (Rat.divInt ((clsS (-((n : Nat) : Int)) n).tdiv ((n : Nat) : Int)) 1)) (IsV (.int .i64 0)))) := by
 obtain ⟨s1, a1, n1, c1, rfl, h1⟩ := hx
 have h1 : IsI _ _ _ w := ⟨_, _, _, _, rfl, h1⟩
 obtain ⟨W, hW, S, AB⟩ : ∃ W, W = (w.alloc (.cells #[.bool s1, .slice a1 n1 c1] 33)).alloc (.cells #[.slice none 0 0, .bool false, .slice none 0 0, .bool false, .slice none 0 0] 48) ∧ Sto w W [((w.heap.size, 0), IsI k1 (-((n : Nat) : Int)))] ∧ AuBox W (w.heap.size + 1) := ⟨_, rfl, (((Sto.start w).new1 (w.heap.size) (by simp) s1 a1 n1 c1 33 (IsI k1 (-((n : Nat) : Int))) (IsI.gstb _ _) (h1)).mono ((Ext.refl _).alloc _)), AuBox.newE _ _ (by simp)⟩
 clear h1
 have EA := Ext.refl W
 go_enter Tryz.func19, Tryz.ntmps19
 go_upto_region 1 with (fail)
 rw [← hW]
 clear hW
 refine rg 9 [some 11, some 12, some 13, some 14, some 15, some 16, some 17, some 18, some 19] [IsI k1 (-((n : Nat) : Int)), IsV (.int .i64 e0), IsV (.bool false), IsV (.bool false), IsI k1 (-((n : Nat) : Int)), IsI 2 (-4), IsV (.int .i64 c4), IsV (.bool false), IsV (.bool false)] [] 0 ?_ ?_
 ·refine Rc (ldI S 0 (w.heap.size) 0 (Od.lit 1) ld_Int) ?_
  refine Rc (cl1 (en Tryz.func63) (Od.lc (Φ := IsI k1 (-((n : Nat) : Int))) 0 11) (fun x0 w' hE d0 => (by have hh := rref_g d0 (by have := HK.out; omega); rw [HDE.out] at hh; exact hh))) ?_
  refine Rc (bn (r := .bool false) (Od.loc 1 12) Od.con (hr := fun w => by have hx9 := HE0.out; go_simp)) ?_
  refine Rc (mv (Od.lc 2 13)) ?_
  refine RcG 3 14 false (ldI S 0 (w.heap.size) 0 (Od.lit 1) ld_Int) ?_
  refine RcG 3 14 false (cl1 (en Tryz.func22) Od.con (fun x0 w' hE d0 => by { obtain rfl : x0 = .int .i64 (-4) := d0; exact ROf_f _ (-4) (by decide) (by decide) })) ?_
  refine RcG 3 14 false (cl2 (en Tryz.func31) (Od.lc (Φ := IsI k1 (-((n : Nat) : Int))) 4 15) (Od.lc (Φ := IsI 2 (-4)) 5 16) (fun x0 x1 w' hE d0 d1 => Calls.mono (RCmp_f d0 d1 (by have := HK.out; omega) (by decide)) fun _ _ h => h.int HC4.out)) ?_
  refine RcG 3 14 false (bn (r := .bool false) (Od.loc 6 17) Od.con (hr := fun w => by have hx9 := HC4B.out; go_simp)) ?_
  refine Rc (pk (Od.loc 3 14) (Od.lc 7 18)) ?_
  exact RgAll.nil
 intro v W1 e1 hΦ _
 replace S := S.mono e1
 replace EA := EA.trans e1
 have v8 : v 8 = .bool false := hΦ 8 (by decide)
 simp only [layL, Act.put, uAx, u0x, u1x, Nat.reduceAdd]
 rw [v8]
 clear v8 hΦ e1
 refine wpAny_done (by kernel_rfl) ?_ _
 go_upto_region 3 with (fail)
 refine rg 4 [some 21, some 22, some 23, some 24] [IsI k1 (-((n : Nat) : Int)), IsI 2 (-4096), IsV (.int .i64 c9), IsV (.bool false)] [] 0 ?_ ?_
 ·refine Rc (ldI S 0 (w.heap.size) 0 (Od.lit 1) ld_Int) ?_
  refine Rc (cl1 (en Tryz.func22) Od.con (fun x0 w' hE d0 => by { obtain rfl : x0 = .int .i64 (-4096) := d0; exact ROf_f _ (-4096) (by decide) (by decide) })) ?_
  refine Rc (cl2 (en Tryz.func31) (Od.lc (Φ := IsI k1 (-((n : Nat) : Int))) 0 21) (Od.lc (Φ := IsI 2 (-4096)) 1 22) (fun x0 x1 w' hE d0 d1 => Calls.mono (RCmp_f d0 d1 (by have := HK.out; omega) (by decide)) fun _ _ h => h.int HC9.out)) ?_
  refine Rc (bn (r := .bool false) (Od.loc 2 23) Od.con (hr := fun w => by have hx9 := HC9B.out; go_simp)) ?_
  exact RgAll.nil
 intro v W2 e1 hΦ _
 replace S := S.mono e1
 replace EA := EA.trans e1
 have v3 : v 3 = .bool false := hΦ 3 (by decide)
 simp only [layL, Act.put, uAx, u0x, u1x, Nat.reduceAdd]
 rw [v3]
 clear v3 hΦ e1
 refine wpAny_done (by kernel_rfl) ?_ _
 go_upto_region 5 with (fail)
 have hl := hid S.lt; have hw := S.ext.size
 have EAz := EA.size
 refine rgs 8 [some 27, some 28, some 26, some 29, some 30, some 31, some 4, some 5] [IsI k1 (-((n : Nat) : Int)), IsT3 (IsI 2 ((-((n / (cdB n L * cdB n L) : Nat) : Int)))) (IsI 2 (((cdB n L : Nat) : Int))) (IsV (.int .i64 0)), IsT3 (IsI 2 ((-((n / (cdB n L * cdB n L) : Nat) : Int)))) (IsI 2 (((cdB n L : Nat) : Int))) (IsV (.int .i64 0)), IsI 2 ((-((n / (cdB n L * cdB n L) : Nat) : Int))), IsI 2 (((cdB n L : Nat) : Int)), IsV (.int .i64 0), IsBo W2 1, IsBo W2 1] [6, 7] ?_ ?_
 ·refine Rc (ldI S 0 (w.heap.size) 0 (Od.lit 1) ld_Int) ?_
  refine Rc (cl1 (en Tryz.func64) (Od.lc (Φ := IsI k1 (-((n : Nat) : Int))) 0 27) (fun x0 w' hE d0 => rConductor_f d0 (by have := HK.out; omega) HNN.out HL.out)) ?_
  refine Rc (mv (Od.lc 1 28)) ?_
  refine Rc (ex (Od.loc 2 26) t30) ?_
  refine Rc (ex (Od.loc 2 26) t31) ?_
  refine Rc (ex (Od.loc 2 26) t32) ?_
  refine Rc (al al_Int) ?_
  refine Rc (al al_Int) ?_
  exact RgAll.nil
 intro v W3 e1 hΦ hne
 replace S := S.mono e1
 replace EA := EA.trans e1
 have h29 := hΦ 3 (by decide)
 have h30 := hΦ 4 (by decide)
 have v5 : v 5 = .int .i64 0 := hΦ 5 (by decide)
 obtain ⟨g4, v6, q2, b1, _⟩ := (hΦ 6 (by decide) : IsBo W2 1 (v 6) W3)
 replace S := S.addN 1 (ApartO.old hl.out q2) (Nat.le_trans hw q2) b1
 obtain ⟨g5, v7, q4, b3, _⟩ := (hΦ 7 (by decide) : IsBo W2 1 (v 7) W3)
 replace S := S.addN 1 (ApartO.cons (fun h => hne 6 7 (by decide) (by decide) (by decide) (by decide) (by decide) (by rw [v6, v7, h])) (ApartO.old hl.out q4)) (Nat.le_trans hw q4) b3
 simp only [newF, List.cons_append, List.nil_append] at S
 simp only [layL, Act.put, uAx, u0x, u1x, Nat.reduceAdd]
 rw [v5, v6, v7]
 clear b1 b3 hl hw hne v5 v6 v7 hΦ e1
 try simp only [List.drop_succ_cons, List.drop_zero]
 (with_reducible refine stL ?_ (by rfl)); intro KK hKK; refine stIe S 1 (g4) 0 h29 st_Int (fun W4 S2 G2 X2 => hKK _ _ ?_) rfl
 replace h30 := (IsI.gstb _ _) _ _ _ G2 h30
 replace EA := X2 _ EA (Nat.le_trans EAz q2); clear X2
 replace S := S2; clear S2 G2 hKK KK h29
 simp only [u0x, u1x] at S
 try simp only [List.drop_succ_cons, List.drop_zero]
 (with_reducible refine stL ?_ (by rfl)); intro KK hKK; refine stIe S 0 (g5) 0 h30 st_Int (fun W5 S2 G2 X2 => hKK _ _ ?_) rfl
 replace EA := X2 _ EA (Nat.le_trans EAz q4); clear X2
 replace S := S2; clear S2 G2 hKK KK h30
 simp only [u0x] at S
 refine wpList_step fun K hK => ?_; go_simp; refine hK _ _ ?_; clear hK K
 refine wpList_nil ?_
 go_upto_region 6 with (fail)
 refine rg 4 [some 32, some 33, some 34, some 35] [IsI 2 (((cdB n L : Nat) : Int)), IsI 2 1, IsV (.bool true), IsV (.bool false)] [] 0 ?_ ?_
 ·refine Rc (ldI S 0 (g5) 0 (Od.lit 5) ld_Int) ?_
  refine Rc (cl1 (en Tryz.func22) Od.con (fun x0 w' hE d0 => by { obtain rfl : x0 = .int .i64 1 := d0; exact ROf_f _ 1 (by decide) (by decide) })) ?_
  refine Rc (cl2 (en Tryz.func26) (Od.lc (Φ := IsI 2 (((cdB n L : Nat) : Int))) 0 32) (Od.lc (Φ := IsI 2 1) 1 33) (fun x0 x1 w' hE d0 d1 => (by have hh := Same_f d0 d1 (by decide); rw [HCF.out] at hh; exact hh))) ?_
  refine Rc (nt (Od.loc 2 34)) ?_
  exact RgAll.nil
 intro v W6 e1 hΦ _
 replace S := S.mono e1
 replace EA := EA.trans e1
 have v3 : v 3 = .bool false := hΦ 3 (by decide)
 simp only [layL, Act.put, uAx, u0x, u1x, Nat.reduceAdd]
 rw [v3]
 clear v3 hΦ e1
 refine wpAny_done (by kernel_rfl) ?_ _
 go_upto_region 8 with (fail)
 refine rgs 7 [some 38, some 39, some 37, some 40, some 41, some 7, some 8] [IsI k1 (-((n : Nat) : Int)), IsT2 (IsV (.int .i64 (-((n : Nat) : Int)))) (IsV (.bool true)), IsT2 (IsV (.int .i64 (-((n : Nat) : Int)))) (IsV (.bool true)), IsV (.int .i64 (-((n : Nat) : Int))), IsV (.bool true), IsV (.int .i64 (-((n : Nat) : Int))), IsV (.bool true)] [] ?_ ?_
 ·refine Rc (ldI S 2 (w.heap.size) 0 (Od.lit 1) ld_Int) ?_
  refine Rc (cl1 (en Tryz.func47) (Od.lc (Φ := IsI k1 (-((n : Nat) : Int))) 0 38) (fun x0 w' hE d0 => RLow_i d0 (by have := HNB.out; omega) (by have := HNB.out; omega))) ?_
  refine Rc (mv (Od.lc 1 39)) ?_
  refine Rc (ex (Od.loc 2 37) t20) ?_
  refine Rc (ex (Od.loc 2 37) t21) ?_
  refine Rc (mv (Od.lc 3 40)) ?_
  refine Rc (mv (Od.lc 4 41)) ?_
  exact RgAll.nil
 intro v W7 e1 hΦ _
 replace S := S.mono e1
 replace EA := EA.trans e1
 have v5 : v 5 = .int .i64 (-((n : Nat) : Int)) := hΦ 5 (by decide)
 simp only [layL, Act.put, uAx, u0x, u1x, Nat.reduceAdd]
 rw [v5]
 clear v5 hΦ e1
 refine wpList_nil ?_
 go_upto_region 9 with (fail)
 refine rgs 1 [some 9] [IsV (.int .i64 0)] [] ?_ ?_
 ·refine Rc (mv Od.con) ?_
  exact RgAll.nil
 intro v W8 e1 hΦ _
 replace S := S.mono e1
 replace EA := EA.trans e1
 have v0 : v 0 = .int .i64 0 := hΦ 0 (by decide)
 simp only [layL, Act.put, uAx, u0x, u1x]
 rw [v0]
 clear v0 hΦ e1
 refine wpList_nil ?_
 go_upto_region 10 with (fail)
 refine rgs 1 [some 10] [IsV (.int .i64 1)] [] ?_ ?_
 ·refine Rc (mv Od.con) ?_
  exact RgAll.nil
 intro v W9 e1 hΦ _
 replace S := S.mono e1
 replace EA := EA.trans e1
 have v0 : v 0 = .int .i64 1 := hΦ 0 (by decide)
 simp only [layL, Act.put, uAx, u0x, u1x]
 rw [v0]
 clear v0 hΦ e1
 refine wpList_nil ?_
 go_wp2_with fail
 have S0 := hid (And.intro S EA); clear S EA
 go_loopg [9, 10] (n - 1) (fun gk v9 v10 wr => ∃ m : Nat, v10 = .int .i64 ((m : Nat) : Int) ∧ v9 = .int .i64 (clsS (-((n : Nat) : Int)) m) ∧ 1 ≤ m ∧ m + gk = n ∧ Hid (Sto w wr [((g5, 0), IsI 2 (((cdB n L : Nat) : Int))), ((g4, 0), IsI 2 ((-((n / (cdB n L * cdB n L) : Nat) : Int)))), ((w.heap.size, 0), IsI k1 (-((n : Nat) : Int)))] ∧ Ext W wr))
 case atStart => exact ⟨1, rfl, by simp [clsS], Nat.le_refl _, by have := HNN.out.1; omega, S0⟩
 case round =>
  clear S0
  obtain ⟨m, rfl, rfl, hm1, hmg, S9⟩ := hrel
  obtain ⟨S, EA⟩ := S9.out
  have hsb := clsS_b (-((n : Nat) : Int)) (m := m) (by have := HNB.out; omega)
  have hkb := kr_abs (-((n : Nat) : Int)) m
  obtain ⟨s, hs⟩ : ∃ s, clsS (-((n : Nat) : Int)) m = s := ⟨_, rfl⟩
  obtain ⟨u, hu⟩ : ∃ u, kr (-((n : Nat) : Int)) m = u := ⟨_, rfl⟩
  rw [hs] at hsb ⊢
  rw [hu] at hkb
  have HU := hid hu
  have hn2 := HNB.out
  have HWN := hid (show IntKind.i64.wrap (-(-((n : Nat) : Int))) = ((n : Nat) : Int) ∧ IntKind.i64.wrap ((n : Nat) : Int) = ((n : Nat) : Int) by constructor <;> (simp only [IntKind.wrap_i64]; omega))
  by_cases hlt : m < n
  ·obtain ⟨mu, hmu⟩ : ∃ x, ((m : Nat) : Int) * u = x := ⟨_, rfl⟩
   have hmub : -4096 ≤ mu ∧ mu ≤ 4096 := by
    rw [← hmu]
    obtain h2 | h2 | h2 : u = -1 ∨ u = 0 ∨ u = 1 := by omega
    all_goals rw [h2]; omega
   have HMU := hid (show IntKind.i64.wrap (((m : Nat) : Int) * u) = mu by rw [hmu]; simp only [IntKind.wrap_i64]; omega)
   have HSU := hid (show IntKind.i64.wrap (s - mu) = s - mu by simp only [IntKind.wrap_i64]; omega)
   have HNX := hid (show s - mu = clsS (-((n : Nat) : Int)) (m + 1) by rw [← hs, ← hmu, ← hu]; rfl)
   have HLT := hid (show ((m : Nat) : Int) < ((n : Nat) : Int) ∧ m < n by omega)
   have HM := hid (show (-9223372036854775808 ≤ ((m : Nat) : Int) ∧ ((m : Nat) : Int) ≤ 9223372036854775807) ∧ 0 < m ∧ m ≤ 4611686018427387904 by omega)
   have HADD := hid (show IntKind.i64.wrap (((m : Nat) : Int) + 1) = ((m : Nat) : Int) + 1 by simp only [IntKind.wrap_i64]; omega)
   have HG := hid hmg
   clear hs hu hsb hkb hn2 hmu hmub hlt hm1 hmg
   go_upto_region 11 with (fail)
   refine rgs 4 [some 42, some 43, some 44, some 45] [IsV (.int .i64 ((m : Nat) : Int)), IsV (.int .i64 (-((n : Nat) : Int))), IsV (.int .i64 ((n : Nat) : Int)), IsV (.bool true)] [] ?_ ?_
   ·refine Rc (mv (Od.lit 10)) ?_
    refine Rc (mv (Od.lit 7)) ?_
    refine Rc (un (r := .int .i64 ((n : Nat) : Int)) (Od.loc 1 43) (hr := fun w => by have hx9 := HWN.out.1; have hx8 := HWN.out.2; go_simp)) ?_
    refine Rc (bn (r := .bool true) (Od.loc 0 42) (Od.loc 2 44) (hr := fun w => by have hx9 := HLT.out.1; have hx8 := HLT.out.2; go_simp)) ?_
    exact RgAll.nil
   intro v W10 e1 hΦ _
   replace S := S.mono e1
   replace EA := EA.trans e1
   have v3 : v 3 = .bool true := hΦ 3 (by decide)
   simp only [layL, Act.put, uAx, u0x, u1x, Nat.reduceAdd]
   rw [v3]
   clear v3 hΦ e1
   refine wpList_nil ?_
   go_upto_region 13 with (fail)
   refine rg 8 [some 48, some 49, some 50, some 51, some 52, some 53, some 54, some 55] [IsV (.int .i64 s), IsV (.int .i64 ((m : Nat) : Int)), IsI k1 (-((n : Nat) : Int)), IsV (.int .i64 ((m : Nat) : Int)), IsI 2 (((m : Nat) : Int)), IsV (.int .i64 u), IsV (.int .i64 mu), IsV (.int .i64 (s - mu))] [] 1 ?_ ?_
   ·refine Rc (mv (Od.lit 9)) ?_
    refine Rc (mv (Od.lit 10)) ?_
    refine Rc (ldI S 2 (w.heap.size) 0 (Od.lit 1) ld_Int) ?_
    refine Rc (mv (Od.lit 10)) ?_
    refine Rc (cl1 (en Tryz.func22) (Od.lc (Φ := IsV (.int .i64 ((m : Nat) : Int))) 3 51) (fun x0 w' hE d0 => by { obtain rfl : x0 = .int .i64 ((m : Nat) : Int) := d0; exact ROf_f _ ((m : Nat) : Int) HM.out.1.1 HM.out.1.2 })) ?_
    refine Rc (cl2 (en Tryz.func48) (Od.lc (Φ := IsI k1 (-((n : Nat) : Int))) 2 50) (Od.lc (Φ := IsI 2 (((m : Nat) : Int))) 4 52) (fun x0 x1 w' hE d0 d1 => (by have hh := RKron_f d0 d1 (by have := HK.out; omega) (by decide) HM.out.2; rw [HU.out] at hh; exact hh))) ?_
    refine Rc (bn (r := .int .i64 mu) (Od.loc 1 49) (Od.loc 5 53) (hr := fun w => by have hx9 := HMU.out; go_simp)) ?_
    refine Rc (bn (r := .int .i64 (s - mu)) (Od.loc 0 48) (Od.loc 6 54) (hr := fun w => by have hx9 := HSU.out; go_simp)) ?_
    exact RgAll.nil
   intro v W11 e1 hΦ _
   replace S := S.mono e1
   replace EA := EA.trans e1
   have v7 : v 7 = .int .i64 (s - mu) := hΦ 7 (by decide)
   simp only [layL, Act.put, uAx, u0x, u1x, Nat.reduceAdd]
   rw [v7]
   clear v7 hΦ e1
   refine wpAny_ready (rs := [8]) (by kernel_rfl) (by simp) (AllReady.cons rfl (fun K hK => ?_) AllReady.nil); go_simp; refine hK _ _ ?_; clear hK K
   refine wpAny_done (by kernel_rfl) ?_ _
   have hx9 := HADD.out
   have S9 := hid (And.intro S EA)
   clear S EA
   go_wp2_with fail
   go_roundg (gk - 1)
   case measure => have := HG.out; have := HLT.out; omega
   case rel => exact ⟨m + 1, by rw [Int.natCast_add]; rfl, by rw [HNX.out], by omega, by have := HG.out; have := HLT.out; omega, S9⟩
  ·obtain rfl : m = n := by omega
   have HGE := hid (show ¬ ((m : Nat) : Int) < ((m : Nat) : Int) ∧ ¬ m < m by omega)
   obtain ⟨qv, hqv⟩ : ∃ x, s.tdiv ((m : Nat) : Int) = x := ⟨_, rfl⟩
   have hqb : -16777216 ≤ qv ∧ qv ≤ 16777216 := by
    have h1 : qv.natAbs ≤ s.natAbs := by rw [← hqv, Int.natAbs_tdiv]; exact Nat.div_le_self _ _
    omega
   have HQV := hid (show s.tdiv ((m : Nat) : Int) = qv ∧ IntKind.i64.wrap qv = qv ∧ ¬ m = 0 from ⟨hqv, by simp only [IntKind.wrap_i64]; omega, by omega⟩)
   have HQB := hid (show -9223372036854775808 ≤ qv ∧ qv ≤ 9223372036854775807 by omega)
   have HQE := hid (show qv = (clsS (-((m : Nat) : Int)) m).tdiv ((m : Nat) : Int) by rw [hs, hqv])
   clear hs hu hsb hkb hn2 hqv hqb hlt hm1 hmg
   go_upto_region 11 with (fail)
   refine rgs 4 [some 42, some 43, some 44, some 45] [IsV (.int .i64 ((m : Nat) : Int)), IsV (.int .i64 (-((m : Nat) : Int))), IsV (.int .i64 ((m : Nat) : Int)), IsV (.bool false)] [] ?_ ?_
   ·refine Rc (mv (Od.lit 10)) ?_
    refine Rc (mv (Od.lit 7)) ?_
    refine Rc (un (r := .int .i64 ((m : Nat) : Int)) (Od.loc 1 43) (hr := fun w => by have hx9 := HWN.out.1; have hx8 := HWN.out.2; go_simp)) ?_
    refine Rc (bn (r := .bool false) (Od.loc 0 42) (Od.loc 2 44) (hr := fun w => by have hx9 := HGE.out.1; have hx8 := HGE.out.2; go_simp)) ?_
    exact RgAll.nil
   intro v W12 e1 hΦ _
   replace S := S.mono e1
   replace EA := EA.trans e1
   have v3 : v 3 = .bool false := hΦ 3 (by decide)
   simp only [layL, Act.put, uAx, u0x, u1x, Nat.reduceAdd]
   rw [v3]
   clear v3 hΦ e1
   refine wpList_nil ?_
   go_upto_region 14 with (fail)
   have HB := hid (show 2 + tn.size ≤ 9223372036854775807 by have := HTN.out.2.2; omega)
   refine rg 8 [some 56, some 57, some 58, some 59, some 60, some 61, some 62, some 63] [IsI k1 (-((m : Nat) : Int)), IsV (.string tn), IsV (.string ((⟨#[99, 58]⟩ : ByteArray) ++ tn)), IsV (.int .i64 s), IsV (.int .i64 (-((m : Nat) : Int))), IsV (.int .i64 ((m : Nat) : Int)), IsV (.int .i64 qv), AuV ((⟨#[99, 58]⟩ : ByteArray) ++ tn) 2 1 (Rat.divInt qv 1)] [] 2 ?_ ?_ (hst := by repeat' (first | exact trivial | exact AuV.stb _ _ _ _ | exact IsV.stb _ | exact IsI.stb _ _ | exact IsBo.stb _ _ | apply IsT2.stb | apply IsT3.stb | apply IsJ.stb | apply IsQ.stb | apply IsF.stb | apply And.intro))
   ·refine Rc (ldI S 2 (w.heap.size) 0 (Od.lit 1) ld_Int) ?_
    refine Rc (cl1 (en Tryz.func60) (Od.lc (Φ := IsI k1 (-((m : Nat) : Int))) 0 56) (fun x0 w' hE d0 => rtext_f d0 (hid (by have := HK.out; omega)) tn HTN)) ?_
    refine Rc (bn (r := .string ((⟨#[99, 58]⟩ : ByteArray) ++ tn)) Od.con (Od.loc 1 57) (hr := fun w => by have ht9 := HB.out; go_simp)) ?_
    refine Rc (mv (Od.lit 9)) ?_
    refine Rc (mv (Od.lit 7)) ?_
    refine Rc (un (r := .int .i64 ((m : Nat) : Int)) (Od.loc 4 60) (hr := fun w => by have hx9 := HWN.out.1; have hx8 := HWN.out.2; go_simp)) ?_
    refine Rc (bn (r := .int .i64 qv) (Od.loc 3 59) (Od.loc 5 61) (hr := fun w => by have hx7 := HQV.out.1; have hx6 := HQV.out.2.1; have hx5 := HQV.out.2.2; go_simp)) ?_
    refine Rc (cl2 (en Tryz.func59) (Od.lc (Φ := IsV (.string ((⟨#[99, 58]⟩ : ByteArray) ++ tn))) 2 58) (Od.lc (Φ := IsV (.int .i64 qv)) 6 62) (fun x0 x1 w' hE d0 d1 => by { obtain rfl : x0 = .string ((⟨#[99, 58]⟩ : ByteArray) ++ tn) := d0; obtain rfl : x1 = .int .i64 qv := d1; exact single_f w' ((⟨#[99, 58]⟩ : ByteArray) ++ tn) qv HQB.out })) ?_
    exact RgAll.nil
   intro v W13 e1 hΦ _
   replace S := S.mono e1
   replace EA := EA.trans e1
   obtain ⟨u63, hu63, k63⟩ : ∃ vv_, v 7 = vv_ ∧ (AuV ((⟨#[99, 58]⟩ : ByteArray) ++ tn) 2 1 (Rat.divInt qv 1)) vv_ W13 := ⟨_, rfl, hΦ 7 (by decide)⟩
   simp only [layL, Act.put, uAx, u0x, u1x, Nat.reduceAdd]
   rw [hu63]
   clear hu63 hΦ e1
   refine wpAny_seqL 8 (by simp only [List.drop_succ_cons, List.drop_zero]; rfl) rfl (by kernel_rfl) ?_
   obtain ⟨gp, sA, aA, nA, cA, sB, aB, nB, cB, hu9, hA, hP⟩ := k63
   rw [hu9]
   have AB10 := AB.ext EA
   have P0 := AB10.m0
   have P1 := AB10.m1
   have P2 := AB10.m2
   have P3 := AB10.m3
   have P4 := AB10.m4
   have Q0 := AB10.f 0
   have Q1 := AB10.f 1
   have Q2 := AB10.f 2
   have Q3 := AB10.f 3
   have Q4 := AB10.f 4
   have HE := hid S.ext
   have HWs := S.ext.size
   clear S EA AB
   refine wpList_step fun K hK => ?_; go_simp; refine hK _ _ ?_; clear hK K
   obtain ⟨W9, hW9, hAt, hbel, hoth, hgr⟩ := au_put AB10 (some ⟨gp, 0, none⟩) 1 1 sA aA nA cA sB aB nB cB
   rw [hW9]
   try simp only [Act.put, uAx, u0x, u1x, Nat.reduceAdd]
   refine wpList_step fun K hK => ?_; go_simp; refine hK _ _ ?_; clear hK K
   refine wpList_nil ?_
   go_wp2_with fail
   have c0 := hAt.m0
   have c1 := hAt.m1
   have c2 := hAt.m2
   have c3 := hAt.m3
   have c4 := hAt.m4
   have hP9 := hP.put AB10 hoth hgr
   have hA9 := IsQ.gstb (IsI.gstb _ _) (IsI.gstb _ _) _ _ _ hgr hA
   exact bodyPost_ret (v := .tuple #[.agg #[.slice (some ⟨gp, 0, none⟩) 1 1, .bool sA, .slice aA nA cA, .bool sB, .slice aB nB cB], .int .i64 0]) (by simp [results, Tryz.results19, go_sem, c0, c1, c2, c3, c4]) rfl ⟨_, rfl, hbel _ _ HE.out (by omega), _, _, rfl, by rw [← HQE.out]; exact ⟨_, _, _, _, _, _, _, _, _, rfl, hA9, hP9⟩, rfl⟩

end Go.Proofs.YtknffgdbdadpcaaGreatDoor
