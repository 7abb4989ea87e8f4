/-
 Reference of package density: Refused, Units, at a discriminant. (Printed by wip/gen/den7.py.)
-/
import Derived.Test.YtknffgdbdadpcaaGreatDoorDen6
namespace Go.Proofs.YtknffgdbdadpcaaGreatDoor
open Go Go.RowKit

set_option maxRecDepth 100000 in
set_option maxHeartbeats 4000000 in
theorem ref_n {k1 k2 n : Nat} {z sg : Int} {x y : Value} {w : World} (hx : IsI k1 (-((n : Nat) : Int)) x w) (hy : IsI k2 z y w) (HK : Hid (k1 ≤ 131072 ∧ k2 ≤ 131072)) (HNN : Hid (1 ≤ n ∧ n ≤ 4194304 ∧ (n % 4 = 0 ∨ n % 4 = 3))) (HSG : Hid (z.sign = sg)) (HSB : Hid (decide (sg ≤ 0) = true)) : Calls Tryz.prog 23 #[x, y] w (Ret w (IsV (.int .i64 1))) := by
 obtain ⟨s1, a1, n1, c1, rfl, h1⟩ := hx
 have h1 : IsI _ _ _ w := ⟨_, _, _, _, rfl, h1⟩
 obtain ⟨s2, a2, n2, c2, rfl, h2⟩ := hy
 have h2 : IsI _ _ _ w := ⟨_, _, _, _, rfl, h2⟩
 obtain ⟨W, hW, S⟩ : ∃ W, W = (w.alloc (.cells #[.bool s1, .slice a1 n1 c1] 33)).alloc (.cells #[.bool s2, .slice a2 n2 c2] 33) ∧ Sto w W [((w.heap.size + 1, 0), IsI k2 z), ((w.heap.size, 0), IsI k1 (-((n : Nat) : Int)))] := ⟨_, rfl, (((Sto.start w).new1 (w.heap.size) (by simp) s1 a1 n1 c1 33 (IsI k1 (-((n : Nat) : Int))) (IsI.gstb _ _) (h1)).new1 (w.heap.size + 1) (by simp) s2 a2 n2 c2 33 (IsI k2 z) (IsI.gstb _ _) (h2.ext ((Ext.refl _).alloc _)))⟩
 clear h1 h2
 go_enter Tryz.func23, Tryz.ntmps23
 go_upto_region 1 with (fail)
 rw [← hW]
 clear hW
 refine rgs 3 [some 9, some 10, some 5] [IsI k1 (-((n : Nat) : Int)), IsV (.int .i64 0), IsV (.int .i64 0)] [] ?_ ?_
 ·refine Rc (ldI S 1 (w.heap.size) 0 (Od.lit 2) ld_Int) ?_
  refine Rc (cl1 (en Tryz.func63) (Od.lc (Φ := IsI k1 (-((n : Nat) : Int))) 0 9) (fun x0 w' hE d0 => rrefused_f d0 HK.out.1 HNN.out)) ?_
  refine Rc (mv (Od.lc 1 10)) ?_
  exact RgAll.nil
 intro v W1 e1 hΦ _
 replace S := S.mono e1
 have v2 : v 2 = .int .i64 0 := hΦ 2 (by decide)
 simp only [layL, Act.put, uAx, u0x, u1x, Nat.reduceAdd]
 rw [v2]
 clear v2 hΦ e1
 refine wpList_nil ?_
 go_upto_region 2 with (fail)
 refine rgs 2 [some 11, some 12] [IsV (.int .i64 0), IsV (.bool false)] [] ?_ ?_
 ·refine Rc (mv (Od.lit 5)) ?_
  refine Rc (bn (r := .bool false) (Od.loc 0 11) Od.con (hr := fun w => by go_simp)) ?_
  exact RgAll.nil
 intro v W2 e1 hΦ _
 replace S := S.mono e1
 have v1 : v 1 = .bool false := hΦ 1 (by decide)
 simp only [layL, Act.put, uAx, u0x, u1x, Nat.reduceAdd]
 rw [v1]
 clear v1 hΦ e1
 refine wpList_nil ?_
 go_upto_region 4 with (fail)
 refine rgs 3 [some 14, some 15, some 16] [IsI k2 z, IsV (.int .i64 sg), IsV (.bool true)] [] ?_ ?_
 ·refine Rc (ldI S 0 (w.heap.size + 1) 0 (Od.lit 3) ld_Int) ?_
  refine Rc (cl1 (en Tryz.func65) (Od.lc (Φ := IsI k2 z) 0 14) (fun x0 w' hE d0 => Calls.mono (RSign_f d0) fun _ _ h => h.int HSG.out)) ?_
  refine Rc (bn (r := .bool true) (Od.loc 1 15) Od.con (hr := fun w => by have hx9 := HSB.out; go_simp)) ?_
  exact RgAll.nil
 intro v W3 e1 hΦ _
 replace S := S.mono e1
 have v2 : v 2 = .bool true := hΦ 2 (by decide)
 simp only [layL, Act.put, uAx, u0x, u1x, Nat.reduceAdd]
 rw [v2]
 clear v2 hΦ e1
 refine wpList_nil ?_
 go_upto_region 5 with (fail)
 refine rgs 1 [some 4] [IsV (.int .i64 1)] [] ?_ ?_
 ·refine Rc (mv Od.con) ?_
  exact RgAll.nil
 intro v W4 e1 hΦ _
 replace S := S.mono e1
 have v0 : v 0 = .int .i64 1 := hΦ 0 (by decide)
 simp only [layL, Act.put, uAx, u0x, u1x]
 rw [v0]
 clear v0 hΦ e1
 refine wpList_nil ?_
 go_wp2_with fail
 exact bodyPost_ret (v := .int .i64 1) (by simp [results, Tryz.results23, go_sem]) rfl (⟨_, rfl, S.ext, rfl⟩)

set_option maxRecDepth 100000 in
set_option maxHeartbeats 4000000 in
theorem ref_b {k1 k2 n : Nat} {z sg : Int} {x y : Value} {w : World} (hx : IsI k1 (-((n : Nat) : Int)) x w) (hy : IsI k2 z y w) (HK : Hid (k1 ≤ 131072 ∧ k2 ≤ 131072)) (HNN : Hid (1 ≤ n ∧ n ≤ 4194304 ∧ (n % 4 = 0 ∨ n % 4 = 3))) (HSG : Hid (z.sign = sg)) (HSB : Hid (decide (sg ≤ 0) = false)) {cb : Int} (HCB : Hid (cmpI z 1048576 = cb)) (HCB1 : Hid (decide (0 < cb) = true)) : Calls Tryz.prog 23 #[x, y] w (Ret w (IsV (.int .i64 2))) := by
 obtain ⟨s1, a1, n1, c1, rfl, h1⟩ := hx
 have h1 : IsI _ _ _ w := ⟨_, _, _, _, rfl, h1⟩
 obtain ⟨s2, a2, n2, c2, rfl, h2⟩ := hy
 have h2 : IsI _ _ _ w := ⟨_, _, _, _, rfl, h2⟩
 obtain ⟨W, hW, S⟩ : ∃ W, W = (w.alloc (.cells #[.bool s1, .slice a1 n1 c1] 33)).alloc (.cells #[.bool s2, .slice a2 n2 c2] 33) ∧ Sto w W [((w.heap.size + 1, 0), IsI k2 z), ((w.heap.size, 0), IsI k1 (-((n : Nat) : Int)))] := ⟨_, rfl, (((Sto.start w).new1 (w.heap.size) (by simp) s1 a1 n1 c1 33 (IsI k1 (-((n : Nat) : Int))) (IsI.gstb _ _) (h1)).new1 (w.heap.size + 1) (by simp) s2 a2 n2 c2 33 (IsI k2 z) (IsI.gstb _ _) (h2.ext ((Ext.refl _).alloc _)))⟩
 clear h1 h2
 go_enter Tryz.func23, Tryz.ntmps23
 go_upto_region 1 with (fail)
 rw [← hW]
 clear hW
 refine rgs 3 [some 9, some 10, some 5] [IsI k1 (-((n : Nat) : Int)), IsV (.int .i64 0), IsV (.int .i64 0)] [] ?_ ?_
 ·refine Rc (ldI S 1 (w.heap.size) 0 (Od.lit 2) ld_Int) ?_
  refine Rc (cl1 (en Tryz.func63) (Od.lc (Φ := IsI k1 (-((n : Nat) : Int))) 0 9) (fun x0 w' hE d0 => rrefused_f d0 HK.out.1 HNN.out)) ?_
  refine Rc (mv (Od.lc 1 10)) ?_
  exact RgAll.nil
 intro v W1 e1 hΦ _
 replace S := S.mono e1
 have v2 : v 2 = .int .i64 0 := hΦ 2 (by decide)
 simp only [layL, Act.put, uAx, u0x, u1x, Nat.reduceAdd]
 rw [v2]
 clear v2 hΦ e1
 refine wpList_nil ?_
 go_upto_region 2 with (fail)
 refine rgs 2 [some 11, some 12] [IsV (.int .i64 0), IsV (.bool false)] [] ?_ ?_
 ·refine Rc (mv (Od.lit 5)) ?_
  refine Rc (bn (r := .bool false) (Od.loc 0 11) Od.con (hr := fun w => by go_simp)) ?_
  exact RgAll.nil
 intro v W2 e1 hΦ _
 replace S := S.mono e1
 have v1 : v 1 = .bool false := hΦ 1 (by decide)
 simp only [layL, Act.put, uAx, u0x, u1x, Nat.reduceAdd]
 rw [v1]
 clear v1 hΦ e1
 refine wpList_nil ?_
 go_upto_region 4 with (fail)
 refine rgs 3 [some 14, some 15, some 16] [IsI k2 z, IsV (.int .i64 sg), IsV (.bool false)] [] ?_ ?_
 ·refine Rc (ldI S 0 (w.heap.size + 1) 0 (Od.lit 3) ld_Int) ?_
  refine Rc (cl1 (en Tryz.func65) (Od.lc (Φ := IsI k2 z) 0 14) (fun x0 w' hE d0 => Calls.mono (RSign_f d0) fun _ _ h => h.int HSG.out)) ?_
  refine Rc (bn (r := .bool false) (Od.loc 1 15) Od.con (hr := fun w => by have hx9 := HSB.out; go_simp)) ?_
  exact RgAll.nil
 intro v W3 e1 hΦ _
 replace S := S.mono e1
 have v2 : v 2 = .bool false := hΦ 2 (by decide)
 simp only [layL, Act.put, uAx, u0x, u1x, Nat.reduceAdd]
 rw [v2]
 clear v2 hΦ e1
 refine wpList_nil ?_
 go_upto_region 6 with (fail)
 refine rg 4 [some 17, some 18, some 19, some 20] [IsI k2 z, IsI 2 1048576, IsV (.int .i64 cb), IsV (.bool true)] [] 0 ?_ ?_
 ·refine Rc (ldI S 0 (w.heap.size + 1) 0 (Od.lit 3) ld_Int) ?_
  refine Rc (cl1 (en Tryz.func22) Od.con (fun x0 w' hE d0 => by { obtain rfl : x0 = .int .i64 1048576 := d0; exact ROf_f _ 1048576 (by decide) (by decide) })) ?_
  refine Rc (cl2 (en Tryz.func31) (Od.lc (Φ := IsI k2 z) 0 17) (Od.lc (Φ := IsI 2 1048576) 1 18) (fun x0 x1 w' hE d0 d1 => Calls.mono (RCmp_f d0 d1 (by have := HK.out.2; omega) (by decide)) fun _ _ h => h.int HCB.out)) ?_
  refine Rc (bn (r := .bool true) (Od.loc 2 19) Od.con (hr := fun w => by have hx9 := HCB1.out; go_simp)) ?_
  exact RgAll.nil
 intro v W4 e1 hΦ _
 replace S := S.mono e1
 have v3 : v 3 = .bool true := hΦ 3 (by decide)
 simp only [layL, Act.put, uAx, u0x, u1x, Nat.reduceAdd]
 rw [v3]
 clear v3 hΦ e1
 refine wpAny_done (by kernel_rfl) ?_ _
 go_upto_region 7 with (fail)
 refine rgs 1 [some 4] [IsV (.int .i64 2)] [] ?_ ?_
 ·refine Rc (mv Od.con) ?_
  exact RgAll.nil
 intro v W5 e1 hΦ _
 replace S := S.mono e1
 have v0 : v 0 = .int .i64 2 := hΦ 0 (by decide)
 simp only [layL, Act.put, uAx, u0x, u1x]
 rw [v0]
 clear v0 hΦ e1
 refine wpList_nil ?_
 go_wp2_with fail
 exact bodyPost_ret (v := .int .i64 2) (by simp [results, Tryz.results23, go_sem]) rfl (⟨_, rfl, S.ext, rfl⟩)

set_option maxRecDepth 100000 in
set_option maxHeartbeats 4000000 in
theorem ref_g {k1 k2 n L : Nat} {z sg : Int} {x y : Value} {w : World} (hx : IsI k1 (-((n : Nat) : Int)) x w) (hy : IsI k2 z y w) (HK : Hid (k1 ≤ 131072 ∧ k2 ≤ 131072)) (HNN : Hid (1 ≤ n ∧ n ≤ 4194304 ∧ (n % 4 = 0 ∨ n % 4 = 3))) (HL : Hid (L * L ≤ n ∧ n < (L + 1) * (L + 1))) (HSG : Hid (z.sign = sg)) (HSB : Hid (decide (sg ≤ 0) = false)) {cb : Int} (HCB : Hid (cmpI z 1048576 = cb)) (HCB1 : Hid (decide (0 < cb) = false)) {gg : Nat} (HGG : Hid (((Int.gcd ((cdB n L : Nat) : Int) z : Nat) : Int) = ((gg : Nat) : Int))) (HGE : Hid (((gg : Nat) : Int) ≠ 1)) : Calls Tryz.prog 23 #[x, y] w (Ret w (IsV (.int .i64 1))) := by
 obtain ⟨s1, a1, n1, c1, rfl, h1⟩ := hx
 have h1 : IsI _ _ _ w := ⟨_, _, _, _, rfl, h1⟩
 obtain ⟨s2, a2, n2, c2, rfl, h2⟩ := hy
 have h2 : IsI _ _ _ w := ⟨_, _, _, _, rfl, h2⟩
 obtain ⟨W, hW, S⟩ : ∃ W, W = (w.alloc (.cells #[.bool s1, .slice a1 n1 c1] 33)).alloc (.cells #[.bool s2, .slice a2 n2 c2] 33) ∧ Sto w W [((w.heap.size + 1, 0), IsI k2 z), ((w.heap.size, 0), IsI k1 (-((n : Nat) : Int)))] := ⟨_, rfl, (((Sto.start w).new1 (w.heap.size) (by simp) s1 a1 n1 c1 33 (IsI k1 (-((n : Nat) : Int))) (IsI.gstb _ _) (h1)).new1 (w.heap.size + 1) (by simp) s2 a2 n2 c2 33 (IsI k2 z) (IsI.gstb _ _) (h2.ext ((Ext.refl _).alloc _)))⟩
 clear h1 h2
 go_enter Tryz.func23, Tryz.ntmps23
 go_upto_region 1 with (fail)
 rw [← hW]
 clear hW
 refine rgs 3 [some 9, some 10, some 5] [IsI k1 (-((n : Nat) : Int)), IsV (.int .i64 0), IsV (.int .i64 0)] [] ?_ ?_
 ·refine Rc (ldI S 1 (w.heap.size) 0 (Od.lit 2) ld_Int) ?_
  refine Rc (cl1 (en Tryz.func63) (Od.lc (Φ := IsI k1 (-((n : Nat) : Int))) 0 9) (fun x0 w' hE d0 => rrefused_f d0 HK.out.1 HNN.out)) ?_
  refine Rc (mv (Od.lc 1 10)) ?_
  exact RgAll.nil
 intro v W1 e1 hΦ _
 replace S := S.mono e1
 have v2 : v 2 = .int .i64 0 := hΦ 2 (by decide)
 simp only [layL, Act.put, uAx, u0x, u1x, Nat.reduceAdd]
 rw [v2]
 clear v2 hΦ e1
 refine wpList_nil ?_
 go_upto_region 2 with (fail)
 refine rgs 2 [some 11, some 12] [IsV (.int .i64 0), IsV (.bool false)] [] ?_ ?_
 ·refine Rc (mv (Od.lit 5)) ?_
  refine Rc (bn (r := .bool false) (Od.loc 0 11) Od.con (hr := fun w => by go_simp)) ?_
  exact RgAll.nil
 intro v W2 e1 hΦ _
 replace S := S.mono e1
 have v1 : v 1 = .bool false := hΦ 1 (by decide)
 simp only [layL, Act.put, uAx, u0x, u1x, Nat.reduceAdd]
 rw [v1]
 clear v1 hΦ e1
 refine wpList_nil ?_
 go_upto_region 4 with (fail)
 refine rgs 3 [some 14, some 15, some 16] [IsI k2 z, IsV (.int .i64 sg), IsV (.bool false)] [] ?_ ?_
 ·refine Rc (ldI S 0 (w.heap.size + 1) 0 (Od.lit 3) ld_Int) ?_
  refine Rc (cl1 (en Tryz.func65) (Od.lc (Φ := IsI k2 z) 0 14) (fun x0 w' hE d0 => Calls.mono (RSign_f d0) fun _ _ h => h.int HSG.out)) ?_
  refine Rc (bn (r := .bool false) (Od.loc 1 15) Od.con (hr := fun w => by have hx9 := HSB.out; go_simp)) ?_
  exact RgAll.nil
 intro v W3 e1 hΦ _
 replace S := S.mono e1
 have v2 : v 2 = .bool false := hΦ 2 (by decide)
 simp only [layL, Act.put, uAx, u0x, u1x, Nat.reduceAdd]
 rw [v2]
 clear v2 hΦ e1
 refine wpList_nil ?_
 go_upto_region 6 with (fail)
 refine rg 4 [some 17, some 18, some 19, some 20] [IsI k2 z, IsI 2 1048576, IsV (.int .i64 cb), IsV (.bool false)] [] 0 ?_ ?_
 ·refine Rc (ldI S 0 (w.heap.size + 1) 0 (Od.lit 3) ld_Int) ?_
  refine Rc (cl1 (en Tryz.func22) Od.con (fun x0 w' hE d0 => by { obtain rfl : x0 = .int .i64 1048576 := d0; exact ROf_f _ 1048576 (by decide) (by decide) })) ?_
  refine Rc (cl2 (en Tryz.func31) (Od.lc (Φ := IsI k2 z) 0 17) (Od.lc (Φ := IsI 2 1048576) 1 18) (fun x0 x1 w' hE d0 d1 => Calls.mono (RCmp_f d0 d1 (by have := HK.out.2; omega) (by decide)) fun _ _ h => h.int HCB.out)) ?_
  refine Rc (bn (r := .bool false) (Od.loc 2 19) Od.con (hr := fun w => by have hx9 := HCB1.out; go_simp)) ?_
  exact RgAll.nil
 intro v W4 e1 hΦ _
 replace S := S.mono e1
 have v3 : v 3 = .bool false := hΦ 3 (by decide)
 simp only [layL, Act.put, uAx, u0x, u1x, Nat.reduceAdd]
 rw [v3]
 clear v3 hΦ e1
 refine wpAny_done (by kernel_rfl) ?_ _
 go_upto_region 8 with (fail)
 have hl := hid S.lt; have hw := S.ext.size
 refine rgs 8 [some 22, some 23, some 21, some 24, some 25, some 26, some 6, some 7] [IsI k1 (-((n : Nat) : Int)), IsT3 (IsI 2 (-((n / (cdB n L * cdB n L) : Nat) : Int))) (IsI 2 (((cdB n L : Nat) : Int))) (IsV (.int .i64 0)), IsT3 (IsI 2 (-((n / (cdB n L * cdB n L) : Nat) : Int))) (IsI 2 (((cdB n L : Nat) : Int))) (IsV (.int .i64 0)), IsI 2 (-((n / (cdB n L * cdB n L) : Nat) : Int)), IsI 2 (((cdB n L : Nat) : Int)), IsV (.int .i64 0), IsBo W4 1, IsBo W4 1] [6, 7] ?_ ?_
 ·refine Rc (ldI S 1 (w.heap.size) 0 (Od.lit 2) ld_Int) ?_
  refine Rc (cl1 (en Tryz.func64) (Od.lc (Φ := IsI k1 (-((n : Nat) : Int))) 0 22) (fun x0 w' hE d0 => rConductor_f d0 HK.out.1 HNN.out HL.out)) ?_
  refine Rc (mv (Od.lc 1 23)) ?_
  refine Rc (ex (Od.loc 2 21) t30) ?_
  refine Rc (ex (Od.loc 2 21) t31) ?_
  refine Rc (ex (Od.loc 2 21) t32) ?_
  refine Rc (al al_Int) ?_
  refine Rc (al al_Int) ?_
  exact RgAll.nil
 intro v W5 e1 hΦ hne
 replace S := S.mono e1
 have h24 := hΦ 3 (by decide)
 have h25 := hΦ 4 (by decide)
 have v5 : v 5 = .int .i64 0 := hΦ 5 (by decide)
 obtain ⟨g6, v6, q2, b1, _⟩ := (hΦ 6 (by decide) : IsBo W4 1 (v 6) W5)
 replace S := S.addN 1 (ApartO.old hl.out q2) (Nat.le_trans hw q2) b1
 obtain ⟨g7, v7, q4, b3, _⟩ := (hΦ 7 (by decide) : IsBo W4 1 (v 7) W5)
 replace S := S.addN 1 (ApartO.cons (fun h => hne 6 7 (by decide) (by decide) (by decide) (by decide) (by decide) (by rw [v6, v7, h])) (ApartO.old hl.out q4)) (Nat.le_trans hw q4) b3
 simp only [newF, List.cons_append, List.nil_append] at S
 simp only [layL, Act.put, uAx, u0x, u1x, Nat.reduceAdd]
 rw [v5, v6, v7]
 clear b1 b3 hl hw hne v5 v6 v7 hΦ e1
 try simp only [List.drop_succ_cons, List.drop_zero]
 (with_reducible refine stL ?_ (by rfl)); intro KK hKK; refine stI S 1 (g6) 0 h24 st_Int (fun W6 S2 G2 => hKK _ _ ?_) rfl
 replace h25 := (IsI.gstb _ _) _ _ _ G2 h25
 replace S := S2; clear S2 G2 hKK KK h24
 simp only [u0x, u1x] at S
 try simp only [List.drop_succ_cons, List.drop_zero]
 (with_reducible refine stL ?_ (by rfl)); intro KK hKK; refine stI S 0 (g7) 0 h25 st_Int (fun W7 S2 G2 => hKK _ _ ?_) rfl
 replace S := S2; clear S2 G2 hKK KK h25
 simp only [u0x] at S
 refine wpList_step fun K hK => ?_; go_simp; refine hK _ _ ?_; clear hK K
 refine wpList_nil ?_
 go_upto_region 9 with (fail)
 refine rgs 6 [some 27, some 28, some 29, some 30, some 31, some 32] [IsI 2 (((cdB n L : Nat) : Int)), IsI k2 z, IsI (max 2 k2) (((gg : Nat) : Int)), IsI 2 1, IsV (.bool false), IsV (.bool true)] [] ?_ ?_
 ·refine Rc (ldI S 0 (g7) 0 (Od.lit 7) ld_Int) ?_
  refine Rc (ldI S 2 (w.heap.size + 1) 0 (Od.lit 3) ld_Int) ?_
  refine Rc (cl2 (en Tryz.func66) (Od.lc (Φ := IsI 2 (((cdB n L : Nat) : Int))) 0 27) (Od.lc (Φ := IsI k2 z) 1 28) (fun x0 x1 w' hE d0 d1 => Calls.mono (RGcd_f d0 d1 (by decide) (by have := HK.out.2; omega)) fun _ _ h => h.eqz HGG.out)) ?_
  refine Rc (cl1 (en Tryz.func22) Od.con (fun x0 w' hE d0 => by { obtain rfl : x0 = .int .i64 1 := d0; exact ROf_f _ 1 (by decide) (by decide) })) ?_
  refine Rc (cl2 (en Tryz.func26) (Od.lc (Φ := IsI (max 2 k2) (((gg : Nat) : Int))) 2 29) (Od.lc (Φ := IsI 2 1) 3 30) (fun x0 x1 w' hE d0 d1 => Same_n d0 d1 HGE.out (by have := HK.out.2; omega))) ?_
  refine Rc (nt (Od.loc 4 31)) ?_
  exact RgAll.nil
 intro v W8 e1 hΦ _
 replace S := S.mono e1
 have v5 : v 5 = .bool true := hΦ 5 (by decide)
 simp only [layL, Act.put, uAx, u0x, u1x, Nat.reduceAdd]
 rw [v5]
 clear v5 hΦ e1
 refine wpList_nil ?_
 go_upto_region 10 with (fail)
 refine rgs 1 [some 4] [IsV (.int .i64 1)] [] ?_ ?_
 ·refine Rc (mv Od.con) ?_
  exact RgAll.nil
 intro v W9 e1 hΦ _
 replace S := S.mono e1
 have v0 : v 0 = .int .i64 1 := hΦ 0 (by decide)
 simp only [layL, Act.put, uAx, u0x, u1x]
 rw [v0]
 clear v0 hΦ e1
 refine wpList_nil ?_
 go_wp2_with fail
 exact bodyPost_ret (v := .int .i64 1) (by simp [results, Tryz.results23, go_sem]) rfl (⟨_, rfl, S.ext, rfl⟩)

set_option maxRecDepth 100000 in
set_option maxHeartbeats 4000000 in
theorem ref_k {k1 k2 n L : Nat} {z sg : Int} {x y : Value} {w : World} (hx : IsI k1 (-((n : Nat) : Int)) x w) (hy : IsI k2 z y w) (HK : Hid (k1 ≤ 131072 ∧ k2 ≤ 131072)) (HNN : Hid (1 ≤ n ∧ n ≤ 4194304 ∧ (n % 4 = 0 ∨ n % 4 = 3))) (HL : Hid (L * L ≤ n ∧ n < (L + 1) * (L + 1))) (HSG : Hid (z.sign = sg)) (HSB : Hid (decide (sg ≤ 0) = false)) {cb : Int} (HCB : Hid (cmpI z 1048576 = cb)) (HCB1 : Hid (decide (0 < cb) = false)) {gg : Nat} (HGG : Hid (((Int.gcd ((cdB n L : Nat) : Int) z : Nat) : Int) = ((gg : Nat) : Int))) (HGE : Hid (((gg : Nat) : Int) = 1)) : Calls Tryz.prog 23 #[x, y] w (Ret w (IsV (.int .i64 0))) := by
 obtain ⟨s1, a1, n1, c1, rfl, h1⟩ := hx
 have h1 : IsI _ _ _ w := ⟨_, _, _, _, rfl, h1⟩
 obtain ⟨s2, a2, n2, c2, rfl, h2⟩ := hy
 have h2 : IsI _ _ _ w := ⟨_, _, _, _, rfl, h2⟩
 obtain ⟨W, hW, S⟩ : ∃ W, W = (w.alloc (.cells #[.bool s1, .slice a1 n1 c1] 33)).alloc (.cells #[.bool s2, .slice a2 n2 c2] 33) ∧ Sto w W [((w.heap.size + 1, 0), IsI k2 z), ((w.heap.size, 0), IsI k1 (-((n : Nat) : Int)))] := ⟨_, rfl, (((Sto.start w).new1 (w.heap.size) (by simp) s1 a1 n1 c1 33 (IsI k1 (-((n : Nat) : Int))) (IsI.gstb _ _) (h1)).new1 (w.heap.size + 1) (by simp) s2 a2 n2 c2 33 (IsI k2 z) (IsI.gstb _ _) (h2.ext ((Ext.refl _).alloc _)))⟩
 clear h1 h2
 go_enter Tryz.func23, Tryz.ntmps23
 go_upto_region 1 with (fail)
 rw [← hW]
 clear hW
 refine rgs 3 [some 9, some 10, some 5] [IsI k1 (-((n : Nat) : Int)), IsV (.int .i64 0), IsV (.int .i64 0)] [] ?_ ?_
 ·refine Rc (ldI S 1 (w.heap.size) 0 (Od.lit 2) ld_Int) ?_
  refine Rc (cl1 (en Tryz.func63) (Od.lc (Φ := IsI k1 (-((n : Nat) : Int))) 0 9) (fun x0 w' hE d0 => rrefused_f d0 HK.out.1 HNN.out)) ?_
  refine Rc (mv (Od.lc 1 10)) ?_
  exact RgAll.nil
 intro v W1 e1 hΦ _
 replace S := S.mono e1
 have v2 : v 2 = .int .i64 0 := hΦ 2 (by decide)
 simp only [layL, Act.put, uAx, u0x, u1x, Nat.reduceAdd]
 rw [v2]
 clear v2 hΦ e1
 refine wpList_nil ?_
 go_upto_region 2 with (fail)
 refine rgs 2 [some 11, some 12] [IsV (.int .i64 0), IsV (.bool false)] [] ?_ ?_
 ·refine Rc (mv (Od.lit 5)) ?_
  refine Rc (bn (r := .bool false) (Od.loc 0 11) Od.con (hr := fun w => by go_simp)) ?_
  exact RgAll.nil
 intro v W2 e1 hΦ _
 replace S := S.mono e1
 have v1 : v 1 = .bool false := hΦ 1 (by decide)
 simp only [layL, Act.put, uAx, u0x, u1x, Nat.reduceAdd]
 rw [v1]
 clear v1 hΦ e1
 refine wpList_nil ?_
 go_upto_region 4 with (fail)
 refine rgs 3 [some 14, some 15, some 16] [IsI k2 z, IsV (.int .i64 sg), IsV (.bool false)] [] ?_ ?_
 ·refine Rc (ldI S 0 (w.heap.size + 1) 0 (Od.lit 3) ld_Int) ?_
  refine Rc (cl1 (en Tryz.func65) (Od.lc (Φ := IsI k2 z) 0 14) (fun x0 w' hE d0 => Calls.mono (RSign_f d0) fun _ _ h => h.int HSG.out)) ?_
  refine Rc (bn (r := .bool false) (Od.loc 1 15) Od.con (hr := fun w => by have hx9 := HSB.out; go_simp)) ?_
  exact RgAll.nil
 intro v W3 e1 hΦ _
 replace S := S.mono e1
 have v2 : v 2 = .bool false := hΦ 2 (by decide)
 simp only [layL, Act.put, uAx, u0x, u1x, Nat.reduceAdd]
 rw [v2]
 clear v2 hΦ e1
 refine wpList_nil ?_
 go_upto_region 6 with (fail)
 refine rg 4 [some 17, some 18, some 19, some 20] [IsI k2 z, IsI 2 1048576, IsV (.int .i64 cb), IsV (.bool false)] [] 0 ?_ ?_
 ·refine Rc (ldI S 0 (w.heap.size + 1) 0 (Od.lit 3) ld_Int) ?_
  refine Rc (cl1 (en Tryz.func22) Od.con (fun x0 w' hE d0 => by { obtain rfl : x0 = .int .i64 1048576 := d0; exact ROf_f _ 1048576 (by decide) (by decide) })) ?_
  refine Rc (cl2 (en Tryz.func31) (Od.lc (Φ := IsI k2 z) 0 17) (Od.lc (Φ := IsI 2 1048576) 1 18) (fun x0 x1 w' hE d0 d1 => Calls.mono (RCmp_f d0 d1 (by have := HK.out.2; omega) (by decide)) fun _ _ h => h.int HCB.out)) ?_
  refine Rc (bn (r := .bool false) (Od.loc 2 19) Od.con (hr := fun w => by have hx9 := HCB1.out; go_simp)) ?_
  exact RgAll.nil
 intro v W4 e1 hΦ _
 replace S := S.mono e1
 have v3 : v 3 = .bool false := hΦ 3 (by decide)
 simp only [layL, Act.put, uAx, u0x, u1x, Nat.reduceAdd]
 rw [v3]
 clear v3 hΦ e1
 refine wpAny_done (by kernel_rfl) ?_ _
 go_upto_region 8 with (fail)
 have hl := hid S.lt; have hw := S.ext.size
 refine rgs 8 [some 22, some 23, some 21, some 24, some 25, some 26, some 6, some 7] [IsI k1 (-((n : Nat) : Int)), IsT3 (IsI 2 (-((n / (cdB n L * cdB n L) : Nat) : Int))) (IsI 2 (((cdB n L : Nat) : Int))) (IsV (.int .i64 0)), IsT3 (IsI 2 (-((n / (cdB n L * cdB n L) : Nat) : Int))) (IsI 2 (((cdB n L : Nat) : Int))) (IsV (.int .i64 0)), IsI 2 (-((n / (cdB n L * cdB n L) : Nat) : Int)), IsI 2 (((cdB n L : Nat) : Int)), IsV (.int .i64 0), IsBo W4 1, IsBo W4 1] [6, 7] ?_ ?_
 ·refine Rc (ldI S 1 (w.heap.size) 0 (Od.lit 2) ld_Int) ?_
  refine Rc (cl1 (en Tryz.func64) (Od.lc (Φ := IsI k1 (-((n : Nat) : Int))) 0 22) (fun x0 w' hE d0 => rConductor_f d0 HK.out.1 HNN.out HL.out)) ?_
  refine Rc (mv (Od.lc 1 23)) ?_
  refine Rc (ex (Od.loc 2 21) t30) ?_
  refine Rc (ex (Od.loc 2 21) t31) ?_
  refine Rc (ex (Od.loc 2 21) t32) ?_
  refine Rc (al al_Int) ?_
  refine Rc (al al_Int) ?_
  exact RgAll.nil
 intro v W5 e1 hΦ hne
 replace S := S.mono e1
 have h24 := hΦ 3 (by decide)
 have h25 := hΦ 4 (by decide)
 have v5 : v 5 = .int .i64 0 := hΦ 5 (by decide)
 obtain ⟨g6, v6, q2, b1, _⟩ := (hΦ 6 (by decide) : IsBo W4 1 (v 6) W5)
 replace S := S.addN 1 (ApartO.old hl.out q2) (Nat.le_trans hw q2) b1
 obtain ⟨g7, v7, q4, b3, _⟩ := (hΦ 7 (by decide) : IsBo W4 1 (v 7) W5)
 replace S := S.addN 1 (ApartO.cons (fun h => hne 6 7 (by decide) (by decide) (by decide) (by decide) (by decide) (by rw [v6, v7, h])) (ApartO.old hl.out q4)) (Nat.le_trans hw q4) b3
 simp only [newF, List.cons_append, List.nil_append] at S
 simp only [layL, Act.put, uAx, u0x, u1x, Nat.reduceAdd]
 rw [v5, v6, v7]
 clear b1 b3 hl hw hne v5 v6 v7 hΦ e1
 try simp only [List.drop_succ_cons, List.drop_zero]
 (with_reducible refine stL ?_ (by rfl)); intro KK hKK; refine stI S 1 (g6) 0 h24 st_Int (fun W6 S2 G2 => hKK _ _ ?_) rfl
 replace h25 := (IsI.gstb _ _) _ _ _ G2 h25
 replace S := S2; clear S2 G2 hKK KK h24
 simp only [u0x, u1x] at S
 try simp only [List.drop_succ_cons, List.drop_zero]
 (with_reducible refine stL ?_ (by rfl)); intro KK hKK; refine stI S 0 (g7) 0 h25 st_Int (fun W7 S2 G2 => hKK _ _ ?_) rfl
 replace S := S2; clear S2 G2 hKK KK h25
 simp only [u0x] at S
 refine wpList_step fun K hK => ?_; go_simp; refine hK _ _ ?_; clear hK K
 refine wpList_nil ?_
 go_upto_region 9 with (fail)
 refine rgs 6 [some 27, some 28, some 29, some 30, some 31, some 32] [IsI 2 (((cdB n L : Nat) : Int)), IsI k2 z, IsI (max 2 k2) (((gg : Nat) : Int)), IsI 2 1, IsV (.bool true), IsV (.bool false)] [] ?_ ?_
 ·refine Rc (ldI S 0 (g7) 0 (Od.lit 7) ld_Int) ?_
  refine Rc (ldI S 2 (w.heap.size + 1) 0 (Od.lit 3) ld_Int) ?_
  refine Rc (cl2 (en Tryz.func66) (Od.lc (Φ := IsI 2 (((cdB n L : Nat) : Int))) 0 27) (Od.lc (Φ := IsI k2 z) 1 28) (fun x0 x1 w' hE d0 d1 => Calls.mono (RGcd_f d0 d1 (by decide) (by have := HK.out.2; omega)) fun _ _ h => h.eqz HGG.out)) ?_
  refine Rc (cl1 (en Tryz.func22) Od.con (fun x0 w' hE d0 => by { obtain rfl : x0 = .int .i64 1 := d0; exact ROf_f _ 1 (by decide) (by decide) })) ?_
  refine Rc (cl2 (en Tryz.func26) (Od.lc (Φ := IsI (max 2 k2) (((gg : Nat) : Int))) 2 29) (Od.lc (Φ := IsI 2 1) 3 30) (fun x0 x1 w' hE d0 d1 => Same_t d0 d1 HGE.out (by have := HK.out.2; omega))) ?_
  refine Rc (nt (Od.loc 4 31)) ?_
  exact RgAll.nil
 intro v W8 e1 hΦ _
 replace S := S.mono e1
 have v5 : v 5 = .bool false := hΦ 5 (by decide)
 simp only [layL, Act.put, uAx, u0x, u1x, Nat.reduceAdd]
 rw [v5]
 clear v5 hΦ e1
 refine wpList_nil ?_
 go_upto_region 11 with (fail)
 refine rgs 1 [some 4] [IsV (.int .i64 0)] [] ?_ ?_
 ·refine Rc (mv Od.con) ?_
  exact RgAll.nil
 intro v W9 e1 hΦ _
 replace S := S.mono e1
 have v0 : v 0 = .int .i64 0 := hΦ 0 (by decide)
 simp only [layL, Act.put, uAx, u0x, u1x]
 rw [v0]
 clear v0 hΦ e1
 refine wpList_nil ?_
 go_wp2_with fail
 exact bodyPost_ret (v := .int .i64 0) (by simp [results, Tryz.results23, go_sem]) rfl (⟨_, rfl, S.ext, rfl⟩)

theorem Refused_f {k1 k2 n L : Nat} {z : Int} {x y : Value} {w : World} (hx : IsI k1 (-((n : Nat) : Int)) x w) (hy : IsI k2 z y w) (l1 : k1 ≤ 131072) (l2 : k2 ≤ 131072) (hn : 1 ≤ n ∧ n ≤ 4194304 ∧ (n % 4 = 0 ∨ n % 4 = 3)) (hL : L * L ≤ n ∧ n < (L + 1) * (L + 1)) :
  Calls Tryz.prog 23 #[x, y] w (Ret w (IsV (.int .i64 (unsE (cdB n L) z)))) := by
 have HK := hid (And.intro l1 l2)
 unfold unsE
 by_cases h1 : z ≤ 0
 ·rw [if_pos h1]
  refine ref_n hx hy HK (hid hn) (hid rfl) (hid (decide_eq_true ?_))
  rcases Int.lt_or_eq_of_le h1 with h | h
  ·rw [Int.sign_eq_neg_one_of_neg h]; decide
  ·rw [h]; decide
 rw [if_neg h1]
 have hs : z.sign = 1 := Int.sign_eq_one_of_pos (by omega)
 have hsb : decide ((1 : Int) ≤ 0) = false := by decide
 by_cases h2 : 1048576 < z
 ·rw [if_pos h2]
  exact ref_b hx hy HK (hid hn) (hid hs) (hid hsb) (hid rfl) (hid (by rw [cmpI_gt h2]; decide))
 rw [if_neg h2]
 have hcb : decide (0 < cmpI z 1048576) = false := by
  unfold cmpI
  split
  ·decide
  ·first
   | decide
   | (rw [if_neg (by omega)]; decide)
 by_cases h3 : Int.gcd ((cdB n L : Nat) : Int) z = 1
 ·rw [if_pos h3]
  exact ref_k hx hy HK (hid hn) (hid hL) (hid hs) (hid hsb) (hid rfl) (hid hcb) (hid rfl) (hid (by rw [h3]; rfl))
 ·rw [if_neg h3]
  exact ref_g hx hy HK (hid hn) (hid hL) (hid hs) (hid hsb) (hid rfl) (hid hcb) (hid rfl) (hid (by omega))

set_option maxRecDepth 100000 in
set_option maxHeartbeats 4000000 in
theorem Units_3 {k1 : Nat} {z : Int} {x : Value} {w : World} (hx : IsI k1 z x w) (HK : Hid (k1 ≤ 131072)) (H3 : Hid (z = -3)) : Calls Tryz.prog 49 #[x] w (Ret w (IsV (.int .i64 6))) := by
 obtain ⟨s1, a1, n1, c1, rfl, h1⟩ := hx
 have h1 : IsI _ _ _ w := ⟨_, _, _, _, rfl, h1⟩
 obtain ⟨W, hW, S⟩ : ∃ W, W = w.alloc (.cells #[.bool s1, .slice a1 n1 c1] 33) ∧ Sto w W [((w.heap.size, 0), IsI k1 z)] := ⟨_, rfl, ((Sto.start w).new1 (w.heap.size) (by simp) s1 a1 n1 c1 33 (IsI k1 z) (IsI.gstb _ _) (h1))⟩
 clear h1
 go_enter Tryz.func49, Tryz.ntmps49
 go_upto_region 1 with (fail)
 rw [← hW]
 clear hW
 refine rg 3 [some 3, some 4, some 5] [IsI k1 z, IsI 2 ((-3)), IsV (.bool true)] [] 0 ?_ ?_
 ·refine Rc (ldI S 0 (w.heap.size) 0 (Od.lit 1) ld_Int) ?_
  refine Rc (cl1 (en Tryz.func22) Od.con (fun x0 w' hE d0 => by { obtain rfl : x0 = .int .i64 (-3) := d0; exact ROf_f _ ((-3)) (by decide) (by decide) })) ?_
  refine Rc (cl2 (en Tryz.func26) (Od.lc (Φ := IsI k1 z) 0 3) (Od.lc (Φ := IsI 2 ((-3))) 1 4) (fun x0 x1 w' hE d0 d1 => Same_t d0 d1 H3.out (by have := HK.out; omega))) ?_
  exact RgAll.nil
 intro v W1 e1 hΦ _
 replace S := S.mono e1
 have v2 : v 2 = .bool true := hΦ 2 (by decide)
 simp only [layL, Act.put, uAx, u0x, u1x, Nat.reduceAdd]
 rw [v2]
 clear v2 hΦ e1
 refine wpAny_done (by kernel_rfl) ?_ _
 go_upto_region 2 with (fail)
 refine rgs 1 [some 2] [IsV (.int .i64 6)] [] ?_ ?_
 ·refine Rc (mv Od.con) ?_
  exact RgAll.nil
 intro v W2 e1 hΦ _
 replace S := S.mono e1
 have v0 : v 0 = .int .i64 6 := hΦ 0 (by decide)
 simp only [layL, Act.put, uAx, u0x, u1x]
 rw [v0]
 clear v0 hΦ e1
 refine wpList_nil ?_
 go_wp2_with fail
 exact bodyPost_ret (v := .int .i64 6) (by simp [results, Tryz.results49, go_sem]) rfl (⟨_, rfl, S.ext, rfl⟩)

set_option maxRecDepth 100000 in
set_option maxHeartbeats 4000000 in
theorem Units_4 {k1 : Nat} {z : Int} {x : Value} {w : World} (hx : IsI k1 z x w) (HK : Hid (k1 ≤ 131072)) (H3 : Hid (z ≠ -3)) (H4 : Hid (z = -4)) : Calls Tryz.prog 49 #[x] w (Ret w (IsV (.int .i64 4))) := by
 obtain ⟨s1, a1, n1, c1, rfl, h1⟩ := hx
 have h1 : IsI _ _ _ w := ⟨_, _, _, _, rfl, h1⟩
 obtain ⟨W, hW, S⟩ : ∃ W, W = w.alloc (.cells #[.bool s1, .slice a1 n1 c1] 33) ∧ Sto w W [((w.heap.size, 0), IsI k1 z)] := ⟨_, rfl, ((Sto.start w).new1 (w.heap.size) (by simp) s1 a1 n1 c1 33 (IsI k1 z) (IsI.gstb _ _) (h1))⟩
 clear h1
 go_enter Tryz.func49, Tryz.ntmps49
 go_upto_region 1 with (fail)
 rw [← hW]
 clear hW
 refine rg 3 [some 3, some 4, some 5] [IsI k1 z, IsI 2 ((-3)), IsV (.bool false)] [] 0 ?_ ?_
 ·refine Rc (ldI S 0 (w.heap.size) 0 (Od.lit 1) ld_Int) ?_
  refine Rc (cl1 (en Tryz.func22) Od.con (fun x0 w' hE d0 => by { obtain rfl : x0 = .int .i64 (-3) := d0; exact ROf_f _ ((-3)) (by decide) (by decide) })) ?_
  refine Rc (cl2 (en Tryz.func26) (Od.lc (Φ := IsI k1 z) 0 3) (Od.lc (Φ := IsI 2 ((-3))) 1 4) (fun x0 x1 w' hE d0 d1 => Same_n d0 d1 H3.out (by have := HK.out; omega))) ?_
  exact RgAll.nil
 intro v W1 e1 hΦ _
 replace S := S.mono e1
 have v2 : v 2 = .bool false := hΦ 2 (by decide)
 simp only [layL, Act.put, uAx, u0x, u1x, Nat.reduceAdd]
 rw [v2]
 clear v2 hΦ e1
 refine wpAny_done (by kernel_rfl) ?_ _
 go_upto_region 3 with (fail)
 refine rg 3 [some 6, some 7, some 8] [IsI k1 z, IsI 2 ((-4)), IsV (.bool true)] [] 0 ?_ ?_
 ·refine Rc (ldI S 0 (w.heap.size) 0 (Od.lit 1) ld_Int) ?_
  refine Rc (cl1 (en Tryz.func22) Od.con (fun x0 w' hE d0 => by { obtain rfl : x0 = .int .i64 (-4) := d0; exact ROf_f _ ((-4)) (by decide) (by decide) })) ?_
  refine Rc (cl2 (en Tryz.func26) (Od.lc (Φ := IsI k1 z) 0 6) (Od.lc (Φ := IsI 2 ((-4))) 1 7) (fun x0 x1 w' hE d0 d1 => Same_t d0 d1 H4.out (by have := HK.out; omega))) ?_
  exact RgAll.nil
 intro v W2 e1 hΦ _
 replace S := S.mono e1
 have v2 : v 2 = .bool true := hΦ 2 (by decide)
 simp only [layL, Act.put, uAx, u0x, u1x, Nat.reduceAdd]
 rw [v2]
 clear v2 hΦ e1
 refine wpAny_done (by kernel_rfl) ?_ _
 go_upto_region 4 with (fail)
 refine rgs 1 [some 2] [IsV (.int .i64 4)] [] ?_ ?_
 ·refine Rc (mv Od.con) ?_
  exact RgAll.nil
 intro v W3 e1 hΦ _
 replace S := S.mono e1
 have v0 : v 0 = .int .i64 4 := hΦ 0 (by decide)
 simp only [layL, Act.put, uAx, u0x, u1x]
 rw [v0]
 clear v0 hΦ e1
 refine wpList_nil ?_
 go_wp2_with fail
 exact bodyPost_ret (v := .int .i64 4) (by simp [results, Tryz.results49, go_sem]) rfl (⟨_, rfl, S.ext, rfl⟩)

set_option maxRecDepth 100000 in
set_option maxHeartbeats 4000000 in
theorem Units_2 {k1 : Nat} {z : Int} {x : Value} {w : World} (hx : IsI k1 z x w) (HK : Hid (k1 ≤ 131072)) (H3 : Hid (z ≠ -3)) (H4 : Hid (z ≠ -4)) : Calls Tryz.prog 49 #[x] w (Ret w (IsV (.int .i64 2))) := by
 obtain ⟨s1, a1, n1, c1, rfl, h1⟩ := hx
 have h1 : IsI _ _ _ w := ⟨_, _, _, _, rfl, h1⟩
 obtain ⟨W, hW, S⟩ : ∃ W, W = w.alloc (.cells #[.bool s1, .slice a1 n1 c1] 33) ∧ Sto w W [((w.heap.size, 0), IsI k1 z)] := ⟨_, rfl, ((Sto.start w).new1 (w.heap.size) (by simp) s1 a1 n1 c1 33 (IsI k1 z) (IsI.gstb _ _) (h1))⟩
 clear h1
 go_enter Tryz.func49, Tryz.ntmps49
 go_upto_region 1 with (fail)
 rw [← hW]
 clear hW
 refine rg 3 [some 3, some 4, some 5] [IsI k1 z, IsI 2 ((-3)), IsV (.bool false)] [] 0 ?_ ?_
 ·refine Rc (ldI S 0 (w.heap.size) 0 (Od.lit 1) ld_Int) ?_
  refine Rc (cl1 (en Tryz.func22) Od.con (fun x0 w' hE d0 => by { obtain rfl : x0 = .int .i64 (-3) := d0; exact ROf_f _ ((-3)) (by decide) (by decide) })) ?_
  refine Rc (cl2 (en Tryz.func26) (Od.lc (Φ := IsI k1 z) 0 3) (Od.lc (Φ := IsI 2 ((-3))) 1 4) (fun x0 x1 w' hE d0 d1 => Same_n d0 d1 H3.out (by have := HK.out; omega))) ?_
  exact RgAll.nil
 intro v W1 e1 hΦ _
 replace S := S.mono e1
 have v2 : v 2 = .bool false := hΦ 2 (by decide)
 simp only [layL, Act.put, uAx, u0x, u1x, Nat.reduceAdd]
 rw [v2]
 clear v2 hΦ e1
 refine wpAny_done (by kernel_rfl) ?_ _
 go_upto_region 3 with (fail)
 refine rg 3 [some 6, some 7, some 8] [IsI k1 z, IsI 2 ((-4)), IsV (.bool false)] [] 0 ?_ ?_
 ·refine Rc (ldI S 0 (w.heap.size) 0 (Od.lit 1) ld_Int) ?_
  refine Rc (cl1 (en Tryz.func22) Od.con (fun x0 w' hE d0 => by { obtain rfl : x0 = .int .i64 (-4) := d0; exact ROf_f _ ((-4)) (by decide) (by decide) })) ?_
  refine Rc (cl2 (en Tryz.func26) (Od.lc (Φ := IsI k1 z) 0 6) (Od.lc (Φ := IsI 2 ((-4))) 1 7) (fun x0 x1 w' hE d0 d1 => Same_n d0 d1 H4.out (by have := HK.out; omega))) ?_
  exact RgAll.nil
 intro v W2 e1 hΦ _
 replace S := S.mono e1
 have v2 : v 2 = .bool false := hΦ 2 (by decide)
 simp only [layL, Act.put, uAx, u0x, u1x, Nat.reduceAdd]
 rw [v2]
 clear v2 hΦ e1
 refine wpAny_done (by kernel_rfl) ?_ _
 go_upto_region 5 with (fail)
 refine rgs 1 [some 2] [IsV (.int .i64 2)] [] ?_ ?_
 ·refine Rc (mv Od.con) ?_
  exact RgAll.nil
 intro v W3 e1 hΦ _
 replace S := S.mono e1
 have v0 : v 0 = .int .i64 2 := hΦ 0 (by decide)
 simp only [layL, Act.put, uAx, u0x, u1x]
 rw [v0]
 clear v0 hΦ e1
 refine wpList_nil ?_
 go_wp2_with fail
 exact bodyPost_ret (v := .int .i64 2) (by simp [results, Tryz.results49, go_sem]) rfl (⟨_, rfl, S.ext, rfl⟩)

/-- The number of units. -/
def unitZ (z : Int) : Int := if z = -3 then 6 else if z = -4 then 4 else 2
theorem Units_f {k1 : Nat} {z : Int} {x : Value} {w : World} (hx : IsI k1 z x w) (l1 : k1 ≤ 131072) : Calls Tryz.prog 49 #[x] w (Ret w (IsV (.int .i64 (unitZ z)))) := by
 unfold unitZ
 by_cases h3 : z = -3
 ·rw [if_pos h3]; exact Units_3 hx (hid l1) (hid h3)
 ·rw [if_neg h3]
  by_cases h4 : z = -4
  ·rw [if_pos h4]; exact Units_4 hx (hid l1) (hid h3) (hid h4)
  ·rw [if_neg h4]; exact Units_2 hx (hid l1) (hid h3) (hid h4)
end Go.Proofs.YtknffgdbdadpcaaGreatDoor
