/-
  Between of the reference of package rational: the simplest fraction of an interval. (Printed by wip/gen/rat15.py.)
-/
import Derived.Test.YtcgdkfadcglekaaGreatDoorQ8
namespace Go.Proofs.YtcgdkfadcglekaaGreatDoor
open Go Go.RowKit

theorem one_num : (Rat.divInt 1 1).num = (((1 : Nat) : Nat) : Int) := by decide +kernel
theorem one_den : ((Rat.divInt 1 1).den : Int) = 1 := by decide +kernel
theorem nil_num : (Rat.divInt 0 1).num = 0 := by decide +kernel
theorem nil_den : ((Rat.divInt 0 1).den : Int) = 1 := by decide +kernel

set_option maxRecDepth 100000 in
set_option maxHeartbeats 4000000 in
theorem rqBtw_E {k : Nat} {pa pb : Rat} {x y : Value} {w : World} (hx : IsRat k pa x w) (hy : IsRat k pb y w) (hk : k ≤ 1000) {cc : Int} (hc : cmpQ pa pb = cc) (hc1 : decide (0 < cc) = true) : Calls Tryz.prog 20 #[x, y] w (Ret w (IsT2 (IsQ (IsI 0 0) (IsI 0 0)) (IsV (.int .i64 1)))) := by
  have HK := hid hk
  have HC := hid hc
  have HC1 := hid hc1
  clear hk hc hc1
  obtain ⟨s1x, a1x, n1x, c1x, s1y, a1y, n1y, c1y, rfl, h1x, h1y⟩ := hx
  obtain ⟨s2x, a2x, n2x, c2x, s2y, a2y, n2y, c2y, rfl, h2x, h2y⟩ := hy
  obtain ⟨W, hW, S⟩ : ∃ W, W = ((w.alloc (.cells #[.bool s1x, .slice a1x n1x c1x, .bool s1y, .slice a1y n1y c1y] 31)).alloc (.cells #[.bool s2x, .slice a2x n2x c2x, .bool s2y, .slice a2y n2y c2y] 31)).alloc (.cells #[.bool false, .slice none 0 0, .bool false, .slice none 0 0] 31) ∧ Sto w W [((w.heap.size + 1 + 1, 1), IsI 0 0), ((w.heap.size + 1 + 1, 0), IsI 0 0), ((w.heap.size + 1, 1), IsI k ((pb.den : Int))), ((w.heap.size + 1, 0), IsI k pb.num), ((w.heap.size, 1), IsI k ((pa.den : Int))), ((w.heap.size, 0), IsI k pa.num)] := ⟨_, rfl, ((((Sto.start w).new2 (w.heap.size) (by simp) s1x s1y a1x a1y n1x c1x n1y c1y 31 (IsI k pa.num) (IsI k ((pa.den : Int))) (IsI.gstb _ _) (h1x) (IsI.gstb _ _) (h1y)).new2 (w.heap.size + 1) (by simp) s2x s2y a2x a2y n2x c2x n2y c2y 31 (IsI k pb.num) (IsI k ((pb.den : Int))) (IsI.gstb _ _) (h2x.ext ((Ext.refl _).alloc _)) (IsI.gstb _ _) (h2y.ext ((Ext.refl _).alloc _))).new2 (w.heap.size + 1 + 1) (by simp) false false none none 0 0 0 0 31 (IsI 0 0) (IsI 0 0) (IsI.gstb _ _) (IsI.nil _ _) (IsI.gstb _ _) (IsI.nil _ _))⟩
  clear h1x h1y h2x h2y
  go_enter Tryz.func20, Tryz.ntmps20
  go_upto_region 1 with (fail)
  rw [← hW]
  clear hW
  refine rgs 4 [some 12, some 13, some 14, some 15] [IsQ (IsI k pa.num) (IsI k ((pa.den : Int))), IsQ (IsI k pb.num) (IsI k ((pb.den : Int))), IsV (.int .i64 cc), IsV (.bool true)] [] ?_ ?_
  · refine Rc (ldQ S 5 4 (w.heap.size) 0 (Od.lit 2) ld_Rat rfl rfl) ?_
    refine Rc (ldQ S 3 2 (w.heap.size + 1) 0 (Od.lit 3) ld_Rat rfl rfl) ?_
    refine Rc (cl2 (en Tryz.func28) (Od.lc (Φ := IsQ (IsI k pa.num) (IsI k ((pa.den : Int)))) 0 12) (Od.lc (Φ := IsQ (IsI k pb.num) (IsI k ((pb.den : Int)))) 1 13) (fun x0 x1 w' hE d0 d1 => Calls.mono (rqCmp_f d0 d1 (by have := HK.out; omega) (by have := HK.out; omega)) fun _ _ h => h.int HC.out)) ?_
    refine Rc (bn (r := .bool true) (Od.loc 2 14) Od.con (hr := fun w => by have hx9 := HC1.out; go_simp)) ?_
    exact RgAll.nil
  intro v W1 e1 hΦ _
  replace S := S.mono e1
  have v3 : v 3 = .bool true := hΦ 3 (by decide)
  simp only [layL, Act.put, List.setIfInBounds_toArray, List.set_cons_zero, List.set_cons_succ, Nat.reduceAdd]
  rw [v3]
  clear v3 hΦ e1
  refine wpList_nil ?_
  go_upto_region 2 with (fail)
  refine rgs 1 [some 16] [IsQ (IsI 0 0) (IsI 0 0)] [] ?_ ?_
  · refine Rc (b0 z_Rat nilQ) ?_
    exact RgAll.nil
  intro v W2 e1 hΦ _
  replace S := S.mono e1
  have h16 := hΦ 0 (by decide)
  simp only [layL, Act.put, List.setIfInBounds_toArray, List.set_cons_zero, List.set_cons_succ]
  clear hΦ e1
  try simp only [List.drop_succ_cons, List.drop_zero]
  (with_reducible refine stL ?_ (by rfl)); intro KK hKK; refine stQ S 1 0 (w.heap.size + 1 + 1) 0 h16 (IsI.gstb _ _) (IsI.gstb _ _) st_Rat (fun W3 S2 G2 => hKK _ _ ?_) rfl rfl
  replace S := S2; clear S2 G2 hKK KK h16
  simp only [List.set_cons_zero, List.set_cons_succ] at S
  refine wpList_step fun K hK => ?_; go_simp; refine hK _ _ ?_; clear hK K
  refine wpList_nil ?_
  go_wp2_with fail
  obtain ⟨s90x, a90x, n90x, c90x, b90x, h90x⟩ := S.at 1 (w.heap.size + 1 + 1) 0 (IsI 0 0) rfl; have L90xa : World.cell? W3 ⟨w.heap.size + 1 + 1, 0, none⟩ = some (.bool s90x) := b90x.c0; have L90xb : World.cell? W3 ⟨w.heap.size + 1 + 1, 1, none⟩ = some (.slice a90x n90x c90x) := b90x.c1
  obtain ⟨s90y, a90y, n90y, c90y, b90y, h90y⟩ := S.at 0 (w.heap.size + 1 + 1) 1 (IsI 0 0) rfl; have L90ya : World.cell? W3 ⟨w.heap.size + 1 + 1, 2, none⟩ = some (.bool s90y) := b90y.c0; have L90yb : World.cell? W3 ⟨w.heap.size + 1 + 1, 3, none⟩ = some (.slice a90y n90y c90y) := b90y.c1
  exact bodyPost_ret (v := .tuple #[.agg #[.bool s90x, .slice a90x n90x c90x, .bool s90y, .slice a90y n90y c90y], .int .i64 1]) (by simp [results, Tryz.results20, go_sem, L90xa, L90xb, L90ya, L90yb]) rfl (⟨_, rfl, S.ext, ⟨_, _, rfl, ⟨_, _, _, _, _, _, _, _, rfl, h90x, h90y⟩, rfl⟩⟩)

set_option maxRecDepth 100000 in
set_option maxHeartbeats 4000000 in
theorem rqBtw_Z {k : Nat} {pa pb : Rat} {x y : Value} {w : World} (hx : IsRat k pa x w) (hy : IsRat k pb y w) (hk : k ≤ 1000) {cc : Int} (hc : cmpQ pa pb = cc) (hc1 : decide (0 < cc) = false) {sa sb : Int} (hsa : pa.num.sign = sa) (hsa1 : sa ≤ 0) (hsb : pb.num.sign = sb) (hsb1 : 0 ≤ sb) : Calls Tryz.prog 20 #[x, y] w (Ret w (IsT2 (IsQ (IsI 2 0) (IsI 2 1)) (IsV (.int .i64 0)))) := by
  have HK := hid hk
  have HC := hid hc
  have HC1 := hid hc1
  have HSA := hid hsa
  have HSA1 := hid (show decide (sa ≤ 0) = true from decide_eq_true hsa1)
  have HSB := hid hsb
  have HSB1 := hid (show decide (0 ≤ sb) = true from decide_eq_true hsb1)
  clear hk hc hc1 hsa hsa1 hsb hsb1
  obtain ⟨s1x, a1x, n1x, c1x, s1y, a1y, n1y, c1y, rfl, h1x, h1y⟩ := hx
  obtain ⟨s2x, a2x, n2x, c2x, s2y, a2y, n2y, c2y, rfl, h2x, h2y⟩ := hy
  obtain ⟨W, hW, S⟩ : ∃ W, W = ((w.alloc (.cells #[.bool s1x, .slice a1x n1x c1x, .bool s1y, .slice a1y n1y c1y] 31)).alloc (.cells #[.bool s2x, .slice a2x n2x c2x, .bool s2y, .slice a2y n2y c2y] 31)).alloc (.cells #[.bool false, .slice none 0 0, .bool false, .slice none 0 0] 31) ∧ Sto w W [((w.heap.size + 1 + 1, 1), IsI 0 0), ((w.heap.size + 1 + 1, 0), IsI 0 0), ((w.heap.size + 1, 1), IsI k ((pb.den : Int))), ((w.heap.size + 1, 0), IsI k pb.num), ((w.heap.size, 1), IsI k ((pa.den : Int))), ((w.heap.size, 0), IsI k pa.num)] := ⟨_, rfl, ((((Sto.start w).new2 (w.heap.size) (by simp) s1x s1y a1x a1y n1x c1x n1y c1y 31 (IsI k pa.num) (IsI k ((pa.den : Int))) (IsI.gstb _ _) (h1x) (IsI.gstb _ _) (h1y)).new2 (w.heap.size + 1) (by simp) s2x s2y a2x a2y n2x c2x n2y c2y 31 (IsI k pb.num) (IsI k ((pb.den : Int))) (IsI.gstb _ _) (h2x.ext ((Ext.refl _).alloc _)) (IsI.gstb _ _) (h2y.ext ((Ext.refl _).alloc _))).new2 (w.heap.size + 1 + 1) (by simp) false false none none 0 0 0 0 31 (IsI 0 0) (IsI 0 0) (IsI.gstb _ _) (IsI.nil _ _) (IsI.gstb _ _) (IsI.nil _ _))⟩
  clear h1x h1y h2x h2y
  go_enter Tryz.func20, Tryz.ntmps20
  go_upto_region 1 with (fail)
  rw [← hW]
  clear hW
  refine rgs 4 [some 12, some 13, some 14, some 15] [IsQ (IsI k pa.num) (IsI k ((pa.den : Int))), IsQ (IsI k pb.num) (IsI k ((pb.den : Int))), IsV (.int .i64 cc), IsV (.bool false)] [] ?_ ?_
  · refine Rc (ldQ S 5 4 (w.heap.size) 0 (Od.lit 2) ld_Rat rfl rfl) ?_
    refine Rc (ldQ S 3 2 (w.heap.size + 1) 0 (Od.lit 3) ld_Rat rfl rfl) ?_
    refine Rc (cl2 (en Tryz.func28) (Od.lc (Φ := IsQ (IsI k pa.num) (IsI k ((pa.den : Int)))) 0 12) (Od.lc (Φ := IsQ (IsI k pb.num) (IsI k ((pb.den : Int)))) 1 13) (fun x0 x1 w' hE d0 d1 => Calls.mono (rqCmp_f d0 d1 (by have := HK.out; omega) (by have := HK.out; omega)) fun _ _ h => h.int HC.out)) ?_
    refine Rc (bn (r := .bool false) (Od.loc 2 14) Od.con (hr := fun w => by have hx9 := HC1.out; go_simp)) ?_
    exact RgAll.nil
  intro v W1 e1 hΦ _
  replace S := S.mono e1
  have v3 : v 3 = .bool false := hΦ 3 (by decide)
  simp only [layL, Act.put, List.setIfInBounds_toArray, List.set_cons_zero, List.set_cons_succ, Nat.reduceAdd]
  rw [v3]
  clear v3 hΦ e1
  refine wpList_nil ?_
  go_upto_region 3 with (fail)
  refine rgs 8 [some 17, some 18, some 19, some 20, some 21, some 22, some 23, some 24] [IsQ (IsI k pa.num) (IsI k ((pa.den : Int))), IsV (.int .i64 sa), IsV (.bool true), IsV (.bool true), IsQ (IsI k pb.num) (IsI k ((pb.den : Int))), IsV (.int .i64 sb), IsV (.bool true), IsV (.bool true)] [] ?_ ?_
  · refine Rc (ldQ S 5 4 (w.heap.size) 0 (Od.lit 2) ld_Rat rfl rfl) ?_
    refine Rc (cl1 (en Tryz.func55) (Od.lc (Φ := IsQ (IsI k pa.num) (IsI k ((pa.den : Int)))) 0 17) (fun x0 w' hE d0 => Calls.mono (rqSign_f d0) fun _ _ h => h.int HSA.out)) ?_
    refine Rc (bn (r := .bool true) (Od.loc 1 18) Od.con (hr := fun w => by have hx9 := HSA1.out; go_simp)) ?_
    refine Rc (mv (Od.lc 2 19)) ?_
    refine RcG 3 20 true (ldQ S 3 2 (w.heap.size + 1) 0 (Od.lit 3) ld_Rat rfl rfl) ?_
    refine RcG 3 20 true (cl1 (en Tryz.func55) (Od.lc (Φ := IsQ (IsI k pb.num) (IsI k ((pb.den : Int)))) 4 21) (fun x0 w' hE d0 => Calls.mono (rqSign_f d0) fun _ _ h => h.int HSB.out)) ?_
    refine RcG 3 20 true (bn (r := .bool true) (Od.loc 5 22) Od.con (hr := fun w => by have hx9 := HSB1.out; go_simp)) ?_
    refine Rc (pk (Od.loc 3 20) (Od.lc 6 23)) ?_
    exact RgAll.nil
  intro v W2 e1 hΦ _
  replace S := S.mono e1
  have v7 : v 7 = .bool true := hΦ 7 (by decide)
  simp only [layL, Act.put, List.setIfInBounds_toArray, List.set_cons_zero, List.set_cons_succ, Nat.reduceAdd]
  rw [v7]
  clear v7 hΦ e1
  refine wpList_nil ?_
  go_upto_region 4 with (fail)
  refine rgs 1 [some 25] [IsQ (IsI 2 0) (IsI 2 1)] [] ?_ ?_
  · refine Rc (cl2 (en Tryz.func27) Od.con Od.con (fun x0 x1 w' hE d0 d1 => by { obtain rfl : x0 = .int .i64 0 := d0; obtain rfl : x1 = .int .i64 1 := d1; exact Calls.mono (rqOf_f w' 0 1 (by decide) (by decide) (by decide)) fun _ _ h => h.mono fun _ _ h => h.eqz nil_num nil_den })) ?_
    exact RgAll.nil
  intro v W3 e1 hΦ _
  replace S := S.mono e1
  have h25 := hΦ 0 (by decide)
  simp only [layL, Act.put, List.setIfInBounds_toArray, List.set_cons_zero, List.set_cons_succ]
  clear hΦ e1
  try simp only [List.drop_succ_cons, List.drop_zero]
  (with_reducible refine stL ?_ (by rfl)); intro KK hKK; refine stQ S 1 0 (w.heap.size + 1 + 1) 0 h25 (IsI.gstb _ _) (IsI.gstb _ _) st_Rat (fun W4 S2 G2 => hKK _ _ ?_) rfl rfl
  replace S := S2; clear S2 G2 hKK KK h25
  simp only [List.set_cons_zero, List.set_cons_succ] at S
  refine wpList_step fun K hK => ?_; go_simp; refine hK _ _ ?_; clear hK K
  refine wpList_nil ?_
  go_wp2_with fail
  obtain ⟨s90x, a90x, n90x, c90x, b90x, h90x⟩ := S.at 1 (w.heap.size + 1 + 1) 0 (IsI 2 0) rfl; have L90xa : World.cell? W4 ⟨w.heap.size + 1 + 1, 0, none⟩ = some (.bool s90x) := b90x.c0; have L90xb : World.cell? W4 ⟨w.heap.size + 1 + 1, 1, none⟩ = some (.slice a90x n90x c90x) := b90x.c1
  obtain ⟨s90y, a90y, n90y, c90y, b90y, h90y⟩ := S.at 0 (w.heap.size + 1 + 1) 1 (IsI 2 1) rfl; have L90ya : World.cell? W4 ⟨w.heap.size + 1 + 1, 2, none⟩ = some (.bool s90y) := b90y.c0; have L90yb : World.cell? W4 ⟨w.heap.size + 1 + 1, 3, none⟩ = some (.slice a90y n90y c90y) := b90y.c1
  exact bodyPost_ret (v := .tuple #[.agg #[.bool s90x, .slice a90x n90x c90x, .bool s90y, .slice a90y n90y c90y], .int .i64 0]) (by simp [results, Tryz.results20, go_sem, L90xa, L90xb, L90ya, L90yb]) rfl (⟨_, rfl, S.ext, ⟨_, _, rfl, ⟨_, _, _, _, _, _, _, _, rfl, h90x, h90y⟩, rfl⟩⟩)

set_option maxRecDepth 100000 in
set_option maxHeartbeats 4000000 in
theorem rqBtw_N {k : Nat} {pa pb : Rat} {x y : Value} {w : World} (hx : IsRat k pa x w) (hy : IsRat k pb y w) (hk : k ≤ 1000) {cc : Int} (hc : cmpQ pa pb = cc) (hc1 : decide (0 < cc) = false) {sa sb : Int} (hsa : pa.num.sign = sa) (hsa1 : sa ≤ 0) (hsb : pb.num.sign = sb) (hsb1 : sb < 0) {r : Rat} (hcl : ∀ (w' : World) (x y : Value), IsRat k (-pb) x w' → IsRat k (-pa) y w' → Calls Tryz.prog 20 #[x, y] w' (Ret w' (IsT2 (IsRat k r) (IsV (.int .i64 0))))) : Calls Tryz.prog 20 #[x, y] w (Ret w (IsT2 (IsRat k (-r)) (IsV (.int .i64 0)))) := by
  have HK := hid hk
  have HC := hid hc
  have HC1 := hid hc1
  have HSA := hid hsa
  have HSA1 := hid (show decide (sa ≤ 0) = true from decide_eq_true hsa1)
  have HSB := hid hsb
  have HSB1 := hid (show decide (0 ≤ sb) = false from decide_eq_false (by omega))
  have HSB2 := hid (show decide (sb < 0) = true from decide_eq_true hsb1)
  have HCL := hid hcl
  clear hk hc hc1 hsa hsa1 hsb hsb1 hcl
  obtain ⟨s1x, a1x, n1x, c1x, s1y, a1y, n1y, c1y, rfl, h1x, h1y⟩ := hx
  obtain ⟨s2x, a2x, n2x, c2x, s2y, a2y, n2y, c2y, rfl, h2x, h2y⟩ := hy
  obtain ⟨W, hW, S⟩ : ∃ W, W = ((w.alloc (.cells #[.bool s1x, .slice a1x n1x c1x, .bool s1y, .slice a1y n1y c1y] 31)).alloc (.cells #[.bool s2x, .slice a2x n2x c2x, .bool s2y, .slice a2y n2y c2y] 31)).alloc (.cells #[.bool false, .slice none 0 0, .bool false, .slice none 0 0] 31) ∧ Sto w W [((w.heap.size + 1 + 1, 1), IsI 0 0), ((w.heap.size + 1 + 1, 0), IsI 0 0), ((w.heap.size + 1, 1), IsI k ((pb.den : Int))), ((w.heap.size + 1, 0), IsI k pb.num), ((w.heap.size, 1), IsI k ((pa.den : Int))), ((w.heap.size, 0), IsI k pa.num)] := ⟨_, rfl, ((((Sto.start w).new2 (w.heap.size) (by simp) s1x s1y a1x a1y n1x c1x n1y c1y 31 (IsI k pa.num) (IsI k ((pa.den : Int))) (IsI.gstb _ _) (h1x) (IsI.gstb _ _) (h1y)).new2 (w.heap.size + 1) (by simp) s2x s2y a2x a2y n2x c2x n2y c2y 31 (IsI k pb.num) (IsI k ((pb.den : Int))) (IsI.gstb _ _) (h2x.ext ((Ext.refl _).alloc _)) (IsI.gstb _ _) (h2y.ext ((Ext.refl _).alloc _))).new2 (w.heap.size + 1 + 1) (by simp) false false none none 0 0 0 0 31 (IsI 0 0) (IsI 0 0) (IsI.gstb _ _) (IsI.nil _ _) (IsI.gstb _ _) (IsI.nil _ _))⟩
  clear h1x h1y h2x h2y
  go_enter Tryz.func20, Tryz.ntmps20
  go_upto_region 1 with (fail)
  rw [← hW]
  clear hW
  refine rgs 4 [some 12, some 13, some 14, some 15] [IsQ (IsI k pa.num) (IsI k ((pa.den : Int))), IsQ (IsI k pb.num) (IsI k ((pb.den : Int))), IsV (.int .i64 cc), IsV (.bool false)] [] ?_ ?_
  · refine Rc (ldQ S 5 4 (w.heap.size) 0 (Od.lit 2) ld_Rat rfl rfl) ?_
    refine Rc (ldQ S 3 2 (w.heap.size + 1) 0 (Od.lit 3) ld_Rat rfl rfl) ?_
    refine Rc (cl2 (en Tryz.func28) (Od.lc (Φ := IsQ (IsI k pa.num) (IsI k ((pa.den : Int)))) 0 12) (Od.lc (Φ := IsQ (IsI k pb.num) (IsI k ((pb.den : Int)))) 1 13) (fun x0 x1 w' hE d0 d1 => Calls.mono (rqCmp_f d0 d1 (by have := HK.out; omega) (by have := HK.out; omega)) fun _ _ h => h.int HC.out)) ?_
    refine Rc (bn (r := .bool false) (Od.loc 2 14) Od.con (hr := fun w => by have hx9 := HC1.out; go_simp)) ?_
    exact RgAll.nil
  intro v W1 e1 hΦ _
  replace S := S.mono e1
  have v3 : v 3 = .bool false := hΦ 3 (by decide)
  simp only [layL, Act.put, List.setIfInBounds_toArray, List.set_cons_zero, List.set_cons_succ, Nat.reduceAdd]
  rw [v3]
  clear v3 hΦ e1
  refine wpList_nil ?_
  go_upto_region 3 with (fail)
  refine rgs 8 [some 17, some 18, some 19, some 20, some 21, some 22, some 23, some 24] [IsQ (IsI k pa.num) (IsI k ((pa.den : Int))), IsV (.int .i64 sa), IsV (.bool true), IsV (.bool true), IsQ (IsI k pb.num) (IsI k ((pb.den : Int))), IsV (.int .i64 sb), IsV (.bool false), IsV (.bool false)] [] ?_ ?_
  · refine Rc (ldQ S 5 4 (w.heap.size) 0 (Od.lit 2) ld_Rat rfl rfl) ?_
    refine Rc (cl1 (en Tryz.func55) (Od.lc (Φ := IsQ (IsI k pa.num) (IsI k ((pa.den : Int)))) 0 17) (fun x0 w' hE d0 => Calls.mono (rqSign_f d0) fun _ _ h => h.int HSA.out)) ?_
    refine Rc (bn (r := .bool true) (Od.loc 1 18) Od.con (hr := fun w => by have hx9 := HSA1.out; go_simp)) ?_
    refine Rc (mv (Od.lc 2 19)) ?_
    refine RcG 3 20 true (ldQ S 3 2 (w.heap.size + 1) 0 (Od.lit 3) ld_Rat rfl rfl) ?_
    refine RcG 3 20 true (cl1 (en Tryz.func55) (Od.lc (Φ := IsQ (IsI k pb.num) (IsI k ((pb.den : Int)))) 4 21) (fun x0 w' hE d0 => Calls.mono (rqSign_f d0) fun _ _ h => h.int HSB.out)) ?_
    refine RcG 3 20 true (bn (r := .bool false) (Od.loc 5 22) Od.con (hr := fun w => by have hx9 := HSB1.out; go_simp)) ?_
    refine Rc (pk (Od.loc 3 20) (Od.lc 6 23)) ?_
    exact RgAll.nil
  intro v W2 e1 hΦ _
  replace S := S.mono e1
  have v7 : v 7 = .bool false := hΦ 7 (by decide)
  simp only [layL, Act.put, List.setIfInBounds_toArray, List.set_cons_zero, List.set_cons_succ, Nat.reduceAdd]
  rw [v7]
  clear v7 hΦ e1
  refine wpList_nil ?_
  go_upto_region 5 with (fail)
  refine rgs 3 [some 26, some 27, some 28] [IsQ (IsI k pb.num) (IsI k ((pb.den : Int))), IsV (.int .i64 sb), IsV (.bool true)] [] ?_ ?_
  · refine Rc (ldQ S 3 2 (w.heap.size + 1) 0 (Od.lit 3) ld_Rat rfl rfl) ?_
    refine Rc (cl1 (en Tryz.func55) (Od.lc (Φ := IsQ (IsI k pb.num) (IsI k ((pb.den : Int)))) 0 26) (fun x0 w' hE d0 => Calls.mono (rqSign_f d0) fun _ _ h => h.int HSB.out)) ?_
    refine Rc (bn (r := .bool true) (Od.loc 1 27) Od.con (hr := fun w => by have hx9 := HSB2.out; go_simp)) ?_
    exact RgAll.nil
  intro v W3 e1 hΦ _
  replace S := S.mono e1
  have v2 : v 2 = .bool true := hΦ 2 (by decide)
  simp only [layL, Act.put, List.setIfInBounds_toArray, List.set_cons_zero, List.set_cons_succ, Nat.reduceAdd]
  rw [v2]
  clear v2 hΦ e1
  refine wpList_nil ?_
  go_upto_region 6 with (fail)
  have hl := hid S.lt; have hw := S.ext.size
  refine rgn 11 [some 30, some 31, some 32, some 33, some 34, some 29, some 35, some 36, some 6, none, some 7] [IsQ (IsI k pb.num) (IsI k ((pb.den : Int))), IsQ (IsI k ((-pb).num)) (IsI k (((-pb).den : Int))), IsQ (IsI k pa.num) (IsI k ((pa.den : Int))), IsQ (IsI k ((-pa).num)) (IsI k (((-pa).den : Int))), IsT2 (IsQ (IsI k r.num) (IsI k ((r.den : Int)))) (IsV (.int .i64 0)), IsT2 (IsQ (IsI k r.num) (IsI k ((r.den : Int)))) (IsV (.int .i64 0)), IsQ (IsI k r.num) (IsI k ((r.den : Int))), IsV (.int .i64 0), IsNw W3 2, TT, IsV (.int .i64 0)] [8] [none, none, none, none, none, none, none, none, none, some (8, [IsI k r.num, IsI k ((r.den : Int))]), none] [none, none, none, none, none, none, none, none, none, some 8, none] 0 ?_ ?_
  · refine RcK (ldQ S 3 2 (w.heap.size + 1) 0 (Od.lit 3) ld_Rat rfl rfl) ?_
    refine RcK (cl1 (en Tryz.func34) (Od.lc (Φ := IsQ (IsI k pb.num) (IsI k ((pb.den : Int)))) 0 30) (fun x0 w' hE d0 => rqneg_f d0)) ?_
    refine RcK (ldQ S 5 4 (w.heap.size) 0 (Od.lit 2) ld_Rat rfl rfl) ?_
    refine RcK (cl1 (en Tryz.func34) (Od.lc (Φ := IsQ (IsI k pa.num) (IsI k ((pa.den : Int)))) 2 32) (fun x0 w' hE d0 => rqneg_f d0)) ?_
    refine RcK (cl2 (en Tryz.func20) (Od.lc (Φ := IsQ (IsI k ((-pb).num)) (IsI k (((-pb).den : Int)))) 1 31) (Od.lc (Φ := IsQ (IsI k ((-pa).num)) (IsI k (((-pa).den : Int)))) 3 33) (fun x0 x1 w' hE d0 d1 => HCL.out _ _ _ d0 d1)) ?_
    refine RcK (mv (Od.lc 4 34)) ?_
    refine RcK (ex (Od.loc 5 29) t20) ?_
    refine RcK (ex (Od.loc 5 29) t21) ?_
    refine RcK (alN al_Rat) ?_
    refine RcS 8 (sQ st_Rat (Od.lc (Φ := IsQ (IsI k r.num) (IsI k ((r.den : Int)))) 6 35) (IsI.gstb _ _) (IsI.gstb _ _)) ?_
    refine RcK (mv (Od.lc 7 36)) ?_
    exact RgAllN.nil
  intro v W4 e1 hΦ hS _
  replace S := S.mono e1
  obtain ⟨g6, v8, q1, S2⟩ := S.addQ (hΦ 8 (by decide) rfl) (hS 9 (by decide) _ _ rfl) hw (IsI.gstb _ _) (IsI.gstb _ _)
  replace S := S2 (ApartO.old hl.out q1); clear S2
  simp only [layL, Act.put, List.setIfInBounds_toArray, List.set_cons_zero, List.set_cons_succ, Nat.reduceAdd]
  rw [v8]
  clear hl hw v8 hΦ hS e1
  refine wpAny_done (by kernel_rfl) ?_ _
  go_upto_region 7 with (fail)
  refine rgs 2 [some 37, some 38] [IsQ (IsI k r.num) (IsI k ((r.den : Int))), IsQ (IsI k ((-r).num)) (IsI k (((-r).den : Int)))] [] ?_ ?_
  · refine Rc (ldQ S 1 0 (g6) 0 (Od.lit 6) ld_Rat rfl rfl) ?_
    refine Rc (cl1 (en Tryz.func34) (Od.lc (Φ := IsQ (IsI k r.num) (IsI k ((r.den : Int)))) 0 37) (fun x0 w' hE d0 => rqneg_f d0)) ?_
    exact RgAll.nil
  intro v W5 e1 hΦ _
  replace S := S.mono e1
  have h38 := hΦ 1 (by decide)
  simp only [layL, Act.put, List.setIfInBounds_toArray, List.set_cons_zero, List.set_cons_succ, Nat.reduceAdd]
  clear hΦ e1
  try simp only [List.drop_succ_cons, List.drop_zero]
  (with_reducible refine stL ?_ (by rfl)); intro KK hKK; refine stQ S 3 2 (w.heap.size + 1 + 1) 0 h38 (IsI.gstb _ _) (IsI.gstb _ _) st_Rat (fun W6 S2 G2 => hKK _ _ ?_) rfl rfl
  replace S := S2; clear S2 G2 hKK KK h38
  simp only [List.set_cons_zero, List.set_cons_succ] at S
  refine wpList_step fun K hK => ?_; go_simp; refine hK _ _ ?_; clear hK K
  refine wpList_nil ?_
  go_wp2_with fail
  obtain ⟨s90x, a90x, n90x, c90x, b90x, h90x⟩ := S.at 3 (w.heap.size + 1 + 1) 0 (IsI k ((-r).num)) rfl; have L90xa : World.cell? W6 ⟨w.heap.size + 1 + 1, 0, none⟩ = some (.bool s90x) := b90x.c0; have L90xb : World.cell? W6 ⟨w.heap.size + 1 + 1, 1, none⟩ = some (.slice a90x n90x c90x) := b90x.c1
  obtain ⟨s90y, a90y, n90y, c90y, b90y, h90y⟩ := S.at 2 (w.heap.size + 1 + 1) 1 (IsI k (((-r).den : Int))) rfl; have L90ya : World.cell? W6 ⟨w.heap.size + 1 + 1, 2, none⟩ = some (.bool s90y) := b90y.c0; have L90yb : World.cell? W6 ⟨w.heap.size + 1 + 1, 3, none⟩ = some (.slice a90y n90y c90y) := b90y.c1
  exact bodyPost_ret (v := .tuple #[.agg #[.bool s90x, .slice a90x n90x c90x, .bool s90y, .slice a90y n90y c90y], .int .i64 0]) (by simp [results, Tryz.results20, go_sem, L90xa, L90xb, L90ya, L90yb]) rfl (⟨_, rfl, S.ext, ⟨_, _, rfl, ⟨_, _, _, _, _, _, _, _, rfl, h90x, h90y⟩, rfl⟩⟩)

set_option maxRecDepth 100000 in
set_option maxHeartbeats 4000000 in
theorem rqBtw_A {K n1 d1 n2 d2 f : Nat} {c1 cc sa sb : Int} {x y : Value} {w : World} (hx : IsP K n1 d1 x w) (hy : IsP K n2 d2 y w) (hK : 2 ≤ K ∧ K ≤ 1000) (ha : Nat.gcd n1 d1 = 1 ∧ 0 < d1) (hb : Nat.gcd n2 d2 = 1 ∧ 0 < d2) (hcc : cmpI ((n1 * d2 : Nat) : Int) ((n2 * d1 : Nat) : Int) = cc) (hcc1 : decide (0 < cc) = false) (hsa : (frac n1 d1).num.sign = sa) (hsa1 : decide (sa ≤ 0) = false) (hsb : (frac n2 d2).num.sign = sb) (hsb1 : decide (sb < 0) = false) (hf : n1 / d1 = f) (hc : cmpI ((f * d1 : Nat) : Int) ((n1 * 1 : Nat) : Int) = c1) (hc1 : (c1 == 0) = true) : Calls Tryz.prog 20 #[x, y] w (Ret w (IsT2 (IsQ (IsI K ((f : Nat) : Int)) (IsI 2 1)) (IsV (.int .i64 0)))) := by
  have HK := hid hK
  have HA := hid ha
  have HB := hid hb
  have HCC := hid hcc
  have HCC1 := hid hcc1
  have HSA := hid hsa
  have HSA1 := hid hsa1
  have HSB := hid hsb
  have HSB1 := hid hsb1
  have HF := hid hf
  have HC := hid hc
  have HC1 := hid hc1
  clear hK ha hb hcc hcc1 hsa hsa1 hsb hsb1 hf hc hc1
  obtain ⟨s1x, a1x, n1x, c1x, s1y, a1y, n1y, c1y, rfl, h1x, h1y⟩ := hx
  obtain ⟨s2x, a2x, n2x, c2x, s2y, a2y, n2y, c2y, rfl, h2x, h2y⟩ := hy
  obtain ⟨W, hW, S⟩ : ∃ W, W = ((w.alloc (.cells #[.bool s1x, .slice a1x n1x c1x, .bool s1y, .slice a1y n1y c1y] 31)).alloc (.cells #[.bool s2x, .slice a2x n2x c2x, .bool s2y, .slice a2y n2y c2y] 31)).alloc (.cells #[.bool false, .slice none 0 0, .bool false, .slice none 0 0] 31) ∧ Sto w W [((w.heap.size + 1 + 1, 1), IsI 0 0), ((w.heap.size + 1 + 1, 0), IsI 0 0), ((w.heap.size + 1, 1), IsI K (((d2 : Nat) : Int))), ((w.heap.size + 1, 0), IsI K (((n2 : Nat) : Int))), ((w.heap.size, 1), IsI K (((d1 : Nat) : Int))), ((w.heap.size, 0), IsI K (((n1 : Nat) : Int)))] := ⟨_, rfl, ((((Sto.start w).new2 (w.heap.size) (by simp) s1x s1y a1x a1y n1x c1x n1y c1y 31 (IsI K (((n1 : Nat) : Int))) (IsI K (((d1 : Nat) : Int))) (IsI.gstb _ _) (h1x) (IsI.gstb _ _) (h1y)).new2 (w.heap.size + 1) (by simp) s2x s2y a2x a2y n2x c2x n2y c2y 31 (IsI K (((n2 : Nat) : Int))) (IsI K (((d2 : Nat) : Int))) (IsI.gstb _ _) (h2x.ext ((Ext.refl _).alloc _)) (IsI.gstb _ _) (h2y.ext ((Ext.refl _).alloc _))).new2 (w.heap.size + 1 + 1) (by simp) false false none none 0 0 0 0 31 (IsI 0 0) (IsI 0 0) (IsI.gstb _ _) (IsI.nil _ _) (IsI.gstb _ _) (IsI.nil _ _))⟩
  clear h1x h1y h2x h2y
  go_enter Tryz.func20, Tryz.ntmps20
  go_upto_region 1 with (fail)
  rw [← hW]
  clear hW
  refine rgs 4 [some 12, some 13, some 14, some 15] [IsQ (IsI K (((n1 : Nat) : Int))) (IsI K (((d1 : Nat) : Int))), IsQ (IsI K (((n2 : Nat) : Int))) (IsI K (((d2 : Nat) : Int))), IsV (.int .i64 cc), IsV (.bool false)] [] ?_ ?_
  · refine Rc (ldQ S 5 4 (w.heap.size) 0 (Od.lit 2) ld_Rat rfl rfl) ?_
    refine Rc (ldQ S 3 2 (w.heap.size + 1) 0 (Od.lit 3) ld_Rat rfl rfl) ?_
    refine Rc (cl2 (en Tryz.func28) (Od.lc (Φ := IsQ (IsI K (((n1 : Nat) : Int))) (IsI K (((d1 : Nat) : Int)))) 0 12) (Od.lc (Φ := IsQ (IsI K (((n2 : Nat) : Int))) (IsI K (((d2 : Nat) : Int)))) 1 13) (fun x0 x1 w' hE d0 d1 => rqpCmp d0 d1 HA.out.1 HA.out.2 HB.out.1 HB.out.2 (by have := HK.out; omega) (by have := HK.out; omega) HCC.out)) ?_
    refine Rc (bn (r := .bool false) (Od.loc 2 14) Od.con (hr := fun w => by have hx9 := HCC1.out; go_simp)) ?_
    exact RgAll.nil
  intro v W1 e1 hΦ _
  replace S := S.mono e1
  have v3 : v 3 = .bool false := hΦ 3 (by decide)
  simp only [layL, Act.put, List.setIfInBounds_toArray, List.set_cons_zero, List.set_cons_succ, Nat.reduceAdd]
  rw [v3]
  clear v3 hΦ e1
  refine wpList_nil ?_
  go_upto_region 3 with (fail)
  refine rgs 8 [some 17, some 18, some 19, some 20, some 21, some 22, some 23, some 24] [IsQ (IsI K (((n1 : Nat) : Int))) (IsI K (((d1 : Nat) : Int))), IsV (.int .i64 sa), IsV (.bool false), IsV (.bool false), IsV (undef), IsV (undef), IsV (undef), IsV (.bool false)] [] ?_ ?_
  · refine Rc (ldQ S 5 4 (w.heap.size) 0 (Od.lit 2) ld_Rat rfl rfl) ?_
    refine Rc (cl1 (en Tryz.func55) (Od.lc (Φ := IsQ (IsI K (((n1 : Nat) : Int))) (IsI K (((d1 : Nat) : Int)))) 0 17) (fun x0 w' hE d0 => Calls.mono (rqSign_f (IsP.rat d0 HA.out.1 HA.out.2)) fun _ _ h => h.int HSA.out)) ?_
    refine Rc (bn (r := .bool false) (Od.loc 1 18) Od.con (hr := fun w => by have hx9 := HSA1.out; go_simp)) ?_
    refine Rc (mv (Od.lc 2 19)) ?_
    refine RcN 3 20 false ?_
    refine RcN 3 20 false ?_
    refine RcN 3 20 false ?_
    refine Rc (pk (Od.loc 3 20) Od.con) ?_
    exact RgAll.nil
  intro v W2 e1 hΦ _
  replace S := S.mono e1
  have v7 : v 7 = .bool false := hΦ 7 (by decide)
  simp only [layL, Act.put, List.setIfInBounds_toArray, List.set_cons_zero, List.set_cons_succ, Nat.reduceAdd]
  rw [v7]
  clear v7 hΦ e1
  refine wpList_nil ?_
  go_upto_region 5 with (fail)
  refine rgs 3 [some 26, some 27, some 28] [IsQ (IsI K (((n2 : Nat) : Int))) (IsI K (((d2 : Nat) : Int))), IsV (.int .i64 sb), IsV (.bool false)] [] ?_ ?_
  · refine Rc (ldQ S 3 2 (w.heap.size + 1) 0 (Od.lit 3) ld_Rat rfl rfl) ?_
    refine Rc (cl1 (en Tryz.func55) (Od.lc (Φ := IsQ (IsI K (((n2 : Nat) : Int))) (IsI K (((d2 : Nat) : Int)))) 0 26) (fun x0 w' hE d0 => Calls.mono (rqSign_f (IsP.rat d0 HB.out.1 HB.out.2)) fun _ _ h => h.int HSB.out)) ?_
    refine Rc (bn (r := .bool false) (Od.loc 1 27) Od.con (hr := fun w => by have hx9 := HSB1.out; go_simp)) ?_
    exact RgAll.nil
  intro v W3 e1 hΦ _
  replace S := S.mono e1
  have v2 : v 2 = .bool false := hΦ 2 (by decide)
  simp only [layL, Act.put, List.setIfInBounds_toArray, List.set_cons_zero, List.set_cons_succ, Nat.reduceAdd]
  rw [v2]
  clear v2 hΦ e1
  refine wpList_nil ?_
  go_upto_region 8 with (fail)
  have hl := hid S.lt; have hw := S.ext.size
  refine rgs 4 [some 39, some 40, some 41, some 8] [IsQ (IsI K (((n1 : Nat) : Int))) (IsI K (((d1 : Nat) : Int))), IsI K (((f : Nat) : Int)), IsQ (IsI K (((f : Nat) : Int))) (IsI 2 1), IsBo W3 2] [3] ?_ ?_
  · refine Rc (ldQ S 5 4 (w.heap.size) 0 (Od.lit 2) ld_Rat rfl rfl) ?_
    refine Rc (cl1 (en Tryz.func25) (Od.lc (Φ := IsQ (IsI K (((n1 : Nat) : Int))) (IsI K (((d1 : Nat) : Int)))) 0 39) (fun x0 w' hE d0 => rqpFloor d0 HA.out.1 HA.out.2 HK.out.2 HF.out)) ?_
    refine Rc (cl1 (en Tryz.func29) (Od.lc (Φ := IsI K (((f : Nat) : Int))) 1 40) (fun x0 w' hE d0 => rqWhole_c d0)) ?_
    refine Rc (al al_Rat) ?_
    exact RgAll.nil
  intro v W4 e1 hΦ _
  replace S := S.mono e1
  have h41 := hΦ 2 (by decide)
  obtain ⟨g8, v3, q2, b1, _⟩ := (hΦ 3 (by decide) : IsBo W3 2 (v 3) W4)
  replace S := S.addN 2 (ApartO.old hl.out q2) (Nat.le_trans hw q2) b1
  simp only [newF, List.cons_append, List.nil_append] at S
  simp only [layL, Act.put, List.setIfInBounds_toArray, List.set_cons_zero, List.set_cons_succ, Nat.reduceAdd]
  rw [v3]
  clear b1 hl hw v3 hΦ e1
  try simp only [List.drop_succ_cons, List.drop_zero]
  (with_reducible refine stL ?_ (by rfl)); intro KK hKK; refine stQ S 1 0 (g8) 0 h41 (IsI.gstb _ _) (IsI.gstb _ _) st_Rat (fun W5 S2 G2 => hKK _ _ ?_) rfl rfl
  replace S := S2; clear S2 G2 hKK KK h41
  simp only [List.set_cons_zero, List.set_cons_succ] at S
  refine wpList_nil ?_
  go_upto_region 9 with (fail)
  refine rgs 4 [some 42, some 43, some 44, some 45] [IsQ (IsI K (((f : Nat) : Int))) (IsI 2 1), IsQ (IsI K (((n1 : Nat) : Int))) (IsI K (((d1 : Nat) : Int))), IsV (.int .i64 c1), IsV (.bool true)] [] ?_ ?_
  · refine Rc (ldQ S 1 0 (g8) 0 (Od.lit 8) ld_Rat rfl rfl) ?_
    refine Rc (ldQ S 7 6 (w.heap.size) 0 (Od.lit 2) ld_Rat rfl rfl) ?_
    refine Rc (cl2 (en Tryz.func28) (Od.lc (Φ := IsQ (IsI K (((f : Nat) : Int))) (IsI 2 1)) 0 42) (Od.lc (Φ := IsQ (IsI K (((n1 : Nat) : Int))) (IsI K (((d1 : Nat) : Int)))) 1 43) (fun x0 x1 w' hE d0 d1 => rqpCmp (l := K) (d0.up (Nat.le_refl _) HK.out.1) d1 (Nat.gcd_one_right _) (by decide) HA.out.1 HA.out.2 (by have := HK.out; omega) (by have := HK.out; omega) HC.out)) ?_
    refine Rc (bn (r := .bool true) (Od.loc 2 44) Od.con (hr := fun w => by have hx9 := HC1.out; go_simp)) ?_
    exact RgAll.nil
  intro v W6 e1 hΦ _
  replace S := S.mono e1
  have v3 : v 3 = .bool true := hΦ 3 (by decide)
  simp only [layL, Act.put, List.setIfInBounds_toArray, List.set_cons_zero, List.set_cons_succ, Nat.reduceAdd]
  rw [v3]
  clear v3 hΦ e1
  refine wpList_nil ?_
  go_upto_region 10 with (fail)
  refine rgs 1 [some 46] [IsQ (IsI K (((f : Nat) : Int))) (IsI 2 1)] [] ?_ ?_
  · refine Rc (ldQ S 1 0 (g8) 0 (Od.lit 8) ld_Rat rfl rfl) ?_
    exact RgAll.nil
  intro v W7 e1 hΦ _
  replace S := S.mono e1
  have h46 := hΦ 0 (by decide)
  simp only [layL, Act.put, List.setIfInBounds_toArray, List.set_cons_zero, List.set_cons_succ]
  clear hΦ e1
  try simp only [List.drop_succ_cons, List.drop_zero]
  (with_reducible refine stL ?_ (by rfl)); intro KK hKK; refine stQ S 3 2 (w.heap.size + 1 + 1) 0 h46 (IsI.gstb _ _) (IsI.gstb _ _) st_Rat (fun W8 S2 G2 => hKK _ _ ?_) rfl rfl
  replace S := S2; clear S2 G2 hKK KK h46
  simp only [List.set_cons_zero, List.set_cons_succ] at S
  refine wpList_step fun K hK => ?_; go_simp; refine hK _ _ ?_; clear hK K
  refine wpList_nil ?_
  go_wp2_with fail
  obtain ⟨s90x, a90x, n90x, c90x, b90x, h90x⟩ := S.at 3 (w.heap.size + 1 + 1) 0 (IsI K (((f : Nat) : Int))) rfl; have L90xa : World.cell? W8 ⟨w.heap.size + 1 + 1, 0, none⟩ = some (.bool s90x) := b90x.c0; have L90xb : World.cell? W8 ⟨w.heap.size + 1 + 1, 1, none⟩ = some (.slice a90x n90x c90x) := b90x.c1
  obtain ⟨s90y, a90y, n90y, c90y, b90y, h90y⟩ := S.at 2 (w.heap.size + 1 + 1) 1 (IsI 2 1) rfl; have L90ya : World.cell? W8 ⟨w.heap.size + 1 + 1, 2, none⟩ = some (.bool s90y) := b90y.c0; have L90yb : World.cell? W8 ⟨w.heap.size + 1 + 1, 3, none⟩ = some (.slice a90y n90y c90y) := b90y.c1
  exact bodyPost_ret (v := .tuple #[.agg #[.bool s90x, .slice a90x n90x c90x, .bool s90y, .slice a90y n90y c90y], .int .i64 0]) (by simp [results, Tryz.results20, go_sem, L90xa, L90xb, L90ya, L90yb]) rfl (⟨_, rfl, S.ext, ⟨_, _, rfl, ⟨_, _, _, _, _, _, _, _, rfl, h90x, h90y⟩, rfl⟩⟩)

set_option maxRecDepth 100000 in
set_option maxHeartbeats 4000000 in
theorem rqBtw_B {K n1 d1 n2 d2 f : Nat} {c1 cc sa sb : Int} {x y : Value} {w : World} (hx : IsP K n1 d1 x w) (hy : IsP K n2 d2 y w) (hK : 2 ≤ K ∧ K ≤ 1000) (ha : Nat.gcd n1 d1 = 1 ∧ 0 < d1) (hb : Nat.gcd n2 d2 = 1 ∧ 0 < d2) (hcc : cmpI ((n1 * d2 : Nat) : Int) ((n2 * d1 : Nat) : Int) = cc) (hcc1 : decide (0 < cc) = false) (hsa : (frac n1 d1).num.sign = sa) (hsa1 : decide (sa ≤ 0) = false) (hsb : (frac n2 d2).num.sign = sb) (hsb1 : decide (sb < 0) = false) (hf : n1 / d1 = f) (hc : cmpI ((f * d1 : Nat) : Int) ((n1 * 1 : Nat) : Int) = c1) (hc1 : (c1 == 0) = false) {c2 : Int} (hd : cmpI (((f + 1) * d2 : Nat) : Int) ((n2 * 1 : Nat) : Int) = c2) (hd1 : decide (c2 ≤ 0) = true) : Calls Tryz.prog 20 #[x, y] w (Ret w (IsT2 (IsP (K + 3) (f + 1) 1) (IsV (.int .i64 0)))) := by
  have HK := hid hK
  have HA := hid ha
  have HB := hid hb
  have HCC := hid hcc
  have HCC1 := hid hcc1
  have HSA := hid hsa
  have HSA1 := hid hsa1
  have HSB := hid hsb
  have HSB1 := hid hsb1
  have HF := hid hf
  have HC := hid hc
  have HC1 := hid hc1
  have HD := hid hd
  have HD1 := hid hd1
  clear hK ha hb hcc hcc1 hsa hsa1 hsb hsb1 hf hc hc1 hd hd1
  obtain ⟨s1x, a1x, n1x, c1x, s1y, a1y, n1y, c1y, rfl, h1x, h1y⟩ := hx
  obtain ⟨s2x, a2x, n2x, c2x, s2y, a2y, n2y, c2y, rfl, h2x, h2y⟩ := hy
  obtain ⟨W, hW, S⟩ : ∃ W, W = ((w.alloc (.cells #[.bool s1x, .slice a1x n1x c1x, .bool s1y, .slice a1y n1y c1y] 31)).alloc (.cells #[.bool s2x, .slice a2x n2x c2x, .bool s2y, .slice a2y n2y c2y] 31)).alloc (.cells #[.bool false, .slice none 0 0, .bool false, .slice none 0 0] 31) ∧ Sto w W [((w.heap.size + 1 + 1, 1), IsI 0 0), ((w.heap.size + 1 + 1, 0), IsI 0 0), ((w.heap.size + 1, 1), IsI K (((d2 : Nat) : Int))), ((w.heap.size + 1, 0), IsI K (((n2 : Nat) : Int))), ((w.heap.size, 1), IsI K (((d1 : Nat) : Int))), ((w.heap.size, 0), IsI K (((n1 : Nat) : Int)))] := ⟨_, rfl, ((((Sto.start w).new2 (w.heap.size) (by simp) s1x s1y a1x a1y n1x c1x n1y c1y 31 (IsI K (((n1 : Nat) : Int))) (IsI K (((d1 : Nat) : Int))) (IsI.gstb _ _) (h1x) (IsI.gstb _ _) (h1y)).new2 (w.heap.size + 1) (by simp) s2x s2y a2x a2y n2x c2x n2y c2y 31 (IsI K (((n2 : Nat) : Int))) (IsI K (((d2 : Nat) : Int))) (IsI.gstb _ _) (h2x.ext ((Ext.refl _).alloc _)) (IsI.gstb _ _) (h2y.ext ((Ext.refl _).alloc _))).new2 (w.heap.size + 1 + 1) (by simp) false false none none 0 0 0 0 31 (IsI 0 0) (IsI 0 0) (IsI.gstb _ _) (IsI.nil _ _) (IsI.gstb _ _) (IsI.nil _ _))⟩
  clear h1x h1y h2x h2y
  go_enter Tryz.func20, Tryz.ntmps20
  go_upto_region 1 with (fail)
  rw [← hW]
  clear hW
  refine rgs 4 [some 12, some 13, some 14, some 15] [IsQ (IsI K (((n1 : Nat) : Int))) (IsI K (((d1 : Nat) : Int))), IsQ (IsI K (((n2 : Nat) : Int))) (IsI K (((d2 : Nat) : Int))), IsV (.int .i64 cc), IsV (.bool false)] [] ?_ ?_
  · refine Rc (ldQ S 5 4 (w.heap.size) 0 (Od.lit 2) ld_Rat rfl rfl) ?_
    refine Rc (ldQ S 3 2 (w.heap.size + 1) 0 (Od.lit 3) ld_Rat rfl rfl) ?_
    refine Rc (cl2 (en Tryz.func28) (Od.lc (Φ := IsQ (IsI K (((n1 : Nat) : Int))) (IsI K (((d1 : Nat) : Int)))) 0 12) (Od.lc (Φ := IsQ (IsI K (((n2 : Nat) : Int))) (IsI K (((d2 : Nat) : Int)))) 1 13) (fun x0 x1 w' hE d0 d1 => rqpCmp d0 d1 HA.out.1 HA.out.2 HB.out.1 HB.out.2 (by have := HK.out; omega) (by have := HK.out; omega) HCC.out)) ?_
    refine Rc (bn (r := .bool false) (Od.loc 2 14) Od.con (hr := fun w => by have hx9 := HCC1.out; go_simp)) ?_
    exact RgAll.nil
  intro v W1 e1 hΦ _
  replace S := S.mono e1
  have v3 : v 3 = .bool false := hΦ 3 (by decide)
  simp only [layL, Act.put, List.setIfInBounds_toArray, List.set_cons_zero, List.set_cons_succ, Nat.reduceAdd]
  rw [v3]
  clear v3 hΦ e1
  refine wpList_nil ?_
  go_upto_region 3 with (fail)
  refine rgs 8 [some 17, some 18, some 19, some 20, some 21, some 22, some 23, some 24] [IsQ (IsI K (((n1 : Nat) : Int))) (IsI K (((d1 : Nat) : Int))), IsV (.int .i64 sa), IsV (.bool false), IsV (.bool false), IsV (undef), IsV (undef), IsV (undef), IsV (.bool false)] [] ?_ ?_
  · refine Rc (ldQ S 5 4 (w.heap.size) 0 (Od.lit 2) ld_Rat rfl rfl) ?_
    refine Rc (cl1 (en Tryz.func55) (Od.lc (Φ := IsQ (IsI K (((n1 : Nat) : Int))) (IsI K (((d1 : Nat) : Int)))) 0 17) (fun x0 w' hE d0 => Calls.mono (rqSign_f (IsP.rat d0 HA.out.1 HA.out.2)) fun _ _ h => h.int HSA.out)) ?_
    refine Rc (bn (r := .bool false) (Od.loc 1 18) Od.con (hr := fun w => by have hx9 := HSA1.out; go_simp)) ?_
    refine Rc (mv (Od.lc 2 19)) ?_
    refine RcN 3 20 false ?_
    refine RcN 3 20 false ?_
    refine RcN 3 20 false ?_
    refine Rc (pk (Od.loc 3 20) Od.con) ?_
    exact RgAll.nil
  intro v W2 e1 hΦ _
  replace S := S.mono e1
  have v7 : v 7 = .bool false := hΦ 7 (by decide)
  simp only [layL, Act.put, List.setIfInBounds_toArray, List.set_cons_zero, List.set_cons_succ, Nat.reduceAdd]
  rw [v7]
  clear v7 hΦ e1
  refine wpList_nil ?_
  go_upto_region 5 with (fail)
  refine rgs 3 [some 26, some 27, some 28] [IsQ (IsI K (((n2 : Nat) : Int))) (IsI K (((d2 : Nat) : Int))), IsV (.int .i64 sb), IsV (.bool false)] [] ?_ ?_
  · refine Rc (ldQ S 3 2 (w.heap.size + 1) 0 (Od.lit 3) ld_Rat rfl rfl) ?_
    refine Rc (cl1 (en Tryz.func55) (Od.lc (Φ := IsQ (IsI K (((n2 : Nat) : Int))) (IsI K (((d2 : Nat) : Int)))) 0 26) (fun x0 w' hE d0 => Calls.mono (rqSign_f (IsP.rat d0 HB.out.1 HB.out.2)) fun _ _ h => h.int HSB.out)) ?_
    refine Rc (bn (r := .bool false) (Od.loc 1 27) Od.con (hr := fun w => by have hx9 := HSB1.out; go_simp)) ?_
    exact RgAll.nil
  intro v W3 e1 hΦ _
  replace S := S.mono e1
  have v2 : v 2 = .bool false := hΦ 2 (by decide)
  simp only [layL, Act.put, List.setIfInBounds_toArray, List.set_cons_zero, List.set_cons_succ, Nat.reduceAdd]
  rw [v2]
  clear v2 hΦ e1
  refine wpList_nil ?_
  go_upto_region 8 with (fail)
  have hl := hid S.lt; have hw := S.ext.size
  refine rgs 4 [some 39, some 40, some 41, some 8] [IsQ (IsI K (((n1 : Nat) : Int))) (IsI K (((d1 : Nat) : Int))), IsI K (((f : Nat) : Int)), IsQ (IsI K (((f : Nat) : Int))) (IsI 2 1), IsBo W3 2] [3] ?_ ?_
  · refine Rc (ldQ S 5 4 (w.heap.size) 0 (Od.lit 2) ld_Rat rfl rfl) ?_
    refine Rc (cl1 (en Tryz.func25) (Od.lc (Φ := IsQ (IsI K (((n1 : Nat) : Int))) (IsI K (((d1 : Nat) : Int)))) 0 39) (fun x0 w' hE d0 => rqpFloor d0 HA.out.1 HA.out.2 HK.out.2 HF.out)) ?_
    refine Rc (cl1 (en Tryz.func29) (Od.lc (Φ := IsI K (((f : Nat) : Int))) 1 40) (fun x0 w' hE d0 => rqWhole_c d0)) ?_
    refine Rc (al al_Rat) ?_
    exact RgAll.nil
  intro v W4 e1 hΦ _
  replace S := S.mono e1
  have h41 := hΦ 2 (by decide)
  obtain ⟨g8, v3, q2, b1, _⟩ := (hΦ 3 (by decide) : IsBo W3 2 (v 3) W4)
  replace S := S.addN 2 (ApartO.old hl.out q2) (Nat.le_trans hw q2) b1
  simp only [newF, List.cons_append, List.nil_append] at S
  simp only [layL, Act.put, List.setIfInBounds_toArray, List.set_cons_zero, List.set_cons_succ, Nat.reduceAdd]
  rw [v3]
  clear b1 hl hw v3 hΦ e1
  try simp only [List.drop_succ_cons, List.drop_zero]
  (with_reducible refine stL ?_ (by rfl)); intro KK hKK; refine stQ S 1 0 (g8) 0 h41 (IsI.gstb _ _) (IsI.gstb _ _) st_Rat (fun W5 S2 G2 => hKK _ _ ?_) rfl rfl
  replace S := S2; clear S2 G2 hKK KK h41
  simp only [List.set_cons_zero, List.set_cons_succ] at S
  refine wpList_nil ?_
  go_upto_region 9 with (fail)
  refine rgs 4 [some 42, some 43, some 44, some 45] [IsQ (IsI K (((f : Nat) : Int))) (IsI 2 1), IsQ (IsI K (((n1 : Nat) : Int))) (IsI K (((d1 : Nat) : Int))), IsV (.int .i64 c1), IsV (.bool false)] [] ?_ ?_
  · refine Rc (ldQ S 1 0 (g8) 0 (Od.lit 8) ld_Rat rfl rfl) ?_
    refine Rc (ldQ S 7 6 (w.heap.size) 0 (Od.lit 2) ld_Rat rfl rfl) ?_
    refine Rc (cl2 (en Tryz.func28) (Od.lc (Φ := IsQ (IsI K (((f : Nat) : Int))) (IsI 2 1)) 0 42) (Od.lc (Φ := IsQ (IsI K (((n1 : Nat) : Int))) (IsI K (((d1 : Nat) : Int)))) 1 43) (fun x0 x1 w' hE d0 d1 => rqpCmp (l := K) (d0.up (Nat.le_refl _) HK.out.1) d1 (Nat.gcd_one_right _) (by decide) HA.out.1 HA.out.2 (by have := HK.out; omega) (by have := HK.out; omega) HC.out)) ?_
    refine Rc (bn (r := .bool false) (Od.loc 2 44) Od.con (hr := fun w => by have hx9 := HC1.out; go_simp)) ?_
    exact RgAll.nil
  intro v W6 e1 hΦ _
  replace S := S.mono e1
  have v3 : v 3 = .bool false := hΦ 3 (by decide)
  simp only [layL, Act.put, List.setIfInBounds_toArray, List.set_cons_zero, List.set_cons_succ, Nat.reduceAdd]
  rw [v3]
  clear v3 hΦ e1
  refine wpList_nil ?_
  go_upto_region 11 with (fail)
  have hl := hid S.lt; have hw := S.ext.size
  refine rgn 5 [some 47, some 48, some 49, some 9, none] [IsQ (IsI K (((f : Nat) : Int))) (IsI 2 1), IsQ (IsI 2 (((1 : Nat) : Int))) (IsI 2 1), IsQ (IsI (K + 3) (((f + 1 : Nat) : Int))) (IsI (K + 3) (((1 : Nat) : Int))), IsNw W6 2, TT] [3] [none, none, none, none, some (3, [IsI (K + 3) (((f + 1 : Nat) : Int)), IsI (K + 3) (((1 : Nat) : Int))])] [none, none, none, none, some 3] 0 ?_ ?_
  · refine RcK (ldQ S 1 0 (g8) 0 (Od.lit 8) ld_Rat rfl rfl) ?_
    refine RcK (cl2 (en Tryz.func27) Od.con Od.con (fun x0 x1 w' hE d0 d1 => by { obtain rfl : x0 = .int .i64 1 := d0; obtain rfl : x1 = .int .i64 1 := d1; exact Calls.mono (rqOf_f w' 1 1 (by decide) (by decide) (by decide)) fun _ _ h => h.mono fun _ _ h => h.eqz one_num one_den })) ?_
    refine RcK (cl2 (en Tryz.func53) (Od.lc (Φ := IsQ (IsI K (((f : Nat) : Int))) (IsI 2 1)) 0 47) (Od.lc (Φ := IsQ (IsI 2 (((1 : Nat) : Int))) (IsI 2 1)) 1 48) (fun x0 x1 w' hE d0 d1 => rqpUp d0 d1 HK.out.1 HK.out.2)) ?_
    refine RcK (alN al_Rat) ?_
    refine RcS 3 (sQ st_Rat (Od.lc (Φ := IsQ (IsI (K + 3) (((f + 1 : Nat) : Int))) (IsI (K + 3) (((1 : Nat) : Int)))) 2 49) (IsI.gstb _ _) (IsI.gstb _ _)) ?_
    exact RgAllN.nil
  intro v W7 e1 hΦ hS _
  replace S := S.mono e1
  obtain ⟨g9, v3, q3, S2⟩ := S.addQ (hΦ 3 (by decide) rfl) (hS 4 (by decide) _ _ rfl) hw (IsI.gstb _ _) (IsI.gstb _ _)
  replace S := S2 (ApartO.old hl.out q3); clear S2
  simp only [layL, Act.put, List.setIfInBounds_toArray, List.set_cons_zero, List.set_cons_succ, Nat.reduceAdd]
  rw [v3]
  clear hl hw v3 hΦ hS e1
  refine wpAny_done (by kernel_rfl) ?_ _
  go_upto_region 12 with (fail)
  refine rgs 4 [some 50, some 51, some 52, some 53] [IsQ (IsI (K + 3) (((f + 1 : Nat) : Int))) (IsI (K + 3) (((1 : Nat) : Int))), IsQ (IsI K (((n2 : Nat) : Int))) (IsI K (((d2 : Nat) : Int))), IsV (.int .i64 c2), IsV (.bool true)] [] ?_ ?_
  · refine Rc (ldQ S 1 0 (g9) 0 (Od.lit 9) ld_Rat rfl rfl) ?_
    refine Rc (ldQ S 7 6 (w.heap.size + 1) 0 (Od.lit 3) ld_Rat rfl rfl) ?_
    refine Rc (cl2 (en Tryz.func28) (Od.lc (Φ := IsQ (IsI (K + 3) (((f + 1 : Nat) : Int))) (IsI (K + 3) (((1 : Nat) : Int)))) 0 50) (Od.lc (Φ := IsQ (IsI K (((n2 : Nat) : Int))) (IsI K (((d2 : Nat) : Int)))) 1 51) (fun x0 x1 w' hE d0 d1 => rqpCmp d0 d1 (Nat.gcd_one_right _) (by decide) HB.out.1 HB.out.2 (by have := HK.out; omega) (by have := HK.out; omega) HD.out)) ?_
    refine Rc (bn (r := .bool true) (Od.loc 2 52) Od.con (hr := fun w => by have hx9 := HD1.out; go_simp)) ?_
    exact RgAll.nil
  intro v W8 e1 hΦ _
  replace S := S.mono e1
  have v3 : v 3 = .bool true := hΦ 3 (by decide)
  simp only [layL, Act.put, List.setIfInBounds_toArray, List.set_cons_zero, List.set_cons_succ, Nat.reduceAdd]
  rw [v3]
  clear v3 hΦ e1
  refine wpList_nil ?_
  go_upto_region 13 with (fail)
  refine rgs 1 [some 54] [IsQ (IsI (K + 3) (((f + 1 : Nat) : Int))) (IsI (K + 3) (((1 : Nat) : Int)))] [] ?_ ?_
  · refine Rc (ldQ S 1 0 (g9) 0 (Od.lit 9) ld_Rat rfl rfl) ?_
    exact RgAll.nil
  intro v W9 e1 hΦ _
  replace S := S.mono e1
  have h54 := hΦ 0 (by decide)
  simp only [layL, Act.put, List.setIfInBounds_toArray, List.set_cons_zero, List.set_cons_succ]
  clear hΦ e1
  try simp only [List.drop_succ_cons, List.drop_zero]
  (with_reducible refine stL ?_ (by rfl)); intro KK hKK; refine stQ S 5 4 (w.heap.size + 1 + 1) 0 h54 (IsI.gstb _ _) (IsI.gstb _ _) st_Rat (fun W10 S2 G2 => hKK _ _ ?_) rfl rfl
  replace S := S2; clear S2 G2 hKK KK h54
  simp only [List.set_cons_zero, List.set_cons_succ] at S
  refine wpList_step fun K hK => ?_; go_simp; refine hK _ _ ?_; clear hK K
  refine wpList_nil ?_
  go_wp2_with fail
  obtain ⟨s90x, a90x, n90x, c90x, b90x, h90x⟩ := S.at 5 (w.heap.size + 1 + 1) 0 (IsI (K + 3) (((f + 1 : Nat) : Int))) rfl; have L90xa : World.cell? W10 ⟨w.heap.size + 1 + 1, 0, none⟩ = some (.bool s90x) := b90x.c0; have L90xb : World.cell? W10 ⟨w.heap.size + 1 + 1, 1, none⟩ = some (.slice a90x n90x c90x) := b90x.c1
  obtain ⟨s90y, a90y, n90y, c90y, b90y, h90y⟩ := S.at 4 (w.heap.size + 1 + 1) 1 (IsI (K + 3) (((1 : Nat) : Int))) rfl; have L90ya : World.cell? W10 ⟨w.heap.size + 1 + 1, 2, none⟩ = some (.bool s90y) := b90y.c0; have L90yb : World.cell? W10 ⟨w.heap.size + 1 + 1, 3, none⟩ = some (.slice a90y n90y c90y) := b90y.c1
  exact bodyPost_ret (v := .tuple #[.agg #[.bool s90x, .slice a90x n90x c90x, .bool s90y, .slice a90y n90y c90y], .int .i64 0]) (by simp [results, Tryz.results20, go_sem, L90xa, L90xb, L90ya, L90yb]) rfl (⟨_, rfl, S.ext, ⟨_, _, rfl, ⟨_, _, _, _, _, _, _, _, rfl, h90x, h90y⟩, rfl⟩⟩)

set_option maxRecDepth 100000 in
set_option maxHeartbeats 4000000 in
theorem rqBtw_C {K n1 d1 n2 d2 f : Nat} {c1 cc sa sb : Int} {x y : Value} {w : World} (hx : IsP K n1 d1 x w) (hy : IsP K n2 d2 y w) (hK : 2 ≤ K ∧ K ≤ 1000) (ha : Nat.gcd n1 d1 = 1 ∧ 0 < d1) (hb : Nat.gcd n2 d2 = 1 ∧ 0 < d2) (hcc : cmpI ((n1 * d2 : Nat) : Int) ((n2 * d1 : Nat) : Int) = cc) (hcc1 : decide (0 < cc) = false) (hsa : (frac n1 d1).num.sign = sa) (hsa1 : decide (sa ≤ 0) = false) (hsb : (frac n2 d2).num.sign = sb) (hsb1 : decide (sb < 0) = false) (hf : n1 / d1 = f) (hc : cmpI ((f * d1 : Nat) : Int) ((n1 * 1 : Nat) : Int) = c1) (hc1 : (c1 == 0) = false) {c2 : Int} (hd : cmpI (((f + 1) * d2 : Nat) : Int) ((n2 * 1 : Nat) : Int) = c2) (hd1 : decide (c2 ≤ 0) = false) {r1 r2 p q : Nat} (hr1 : f * d1 ≤ n1 ∧ n1 - f * d1 = r1) (hr2 : f * d2 ≤ n2 ∧ n2 - f * d2 = r2) (hg : Nat.gcd q p = 1 ∧ 0 < p ∧ f * p + q < 4294967296 ^ K)
    (ih : ∀ (w' : World) (x y : Value), IsP K d2 r2 x w' → IsP K d1 r1 y w' → Calls Tryz.prog 20 #[x, y] w' (Ret w' (IsT2 (IsP K p q) (IsV (.int .i64 0))))) : Calls Tryz.prog 20 #[x, y] w (Ret w (IsT2 (IsP K (f * p + q) p) (IsV (.int .i64 0)))) := by
  have HK := hid hK
  have HA := hid ha
  have HB := hid hb
  have HCC := hid hcc
  have HCC1 := hid hcc1
  have HSA := hid hsa
  have HSA1 := hid hsa1
  have HSB := hid hsb
  have HSB1 := hid hsb1
  have HF := hid hf
  have HC := hid hc
  have HC1 := hid hc1
  have HD := hid hd
  have HD1 := hid hd1
  have HR1 := hid hr1
  have HR2 := hid hr2
  have HG := hid hg
  have IH := hid ih
  clear hK ha hb hcc hcc1 hsa hsa1 hsb hsb1 hf hc hc1 hd hd1 hr1 hr2 hg ih
  obtain ⟨s1x, a1x, n1x, c1x, s1y, a1y, n1y, c1y, rfl, h1x, h1y⟩ := hx
  obtain ⟨s2x, a2x, n2x, c2x, s2y, a2y, n2y, c2y, rfl, h2x, h2y⟩ := hy
  obtain ⟨W, hW, S⟩ : ∃ W, W = ((w.alloc (.cells #[.bool s1x, .slice a1x n1x c1x, .bool s1y, .slice a1y n1y c1y] 31)).alloc (.cells #[.bool s2x, .slice a2x n2x c2x, .bool s2y, .slice a2y n2y c2y] 31)).alloc (.cells #[.bool false, .slice none 0 0, .bool false, .slice none 0 0] 31) ∧ Sto w W [((w.heap.size + 1 + 1, 1), IsI 0 0), ((w.heap.size + 1 + 1, 0), IsI 0 0), ((w.heap.size + 1, 1), IsI K (((d2 : Nat) : Int))), ((w.heap.size + 1, 0), IsI K (((n2 : Nat) : Int))), ((w.heap.size, 1), IsI K (((d1 : Nat) : Int))), ((w.heap.size, 0), IsI K (((n1 : Nat) : Int)))] := ⟨_, rfl, ((((Sto.start w).new2 (w.heap.size) (by simp) s1x s1y a1x a1y n1x c1x n1y c1y 31 (IsI K (((n1 : Nat) : Int))) (IsI K (((d1 : Nat) : Int))) (IsI.gstb _ _) (h1x) (IsI.gstb _ _) (h1y)).new2 (w.heap.size + 1) (by simp) s2x s2y a2x a2y n2x c2x n2y c2y 31 (IsI K (((n2 : Nat) : Int))) (IsI K (((d2 : Nat) : Int))) (IsI.gstb _ _) (h2x.ext ((Ext.refl _).alloc _)) (IsI.gstb _ _) (h2y.ext ((Ext.refl _).alloc _))).new2 (w.heap.size + 1 + 1) (by simp) false false none none 0 0 0 0 31 (IsI 0 0) (IsI 0 0) (IsI.gstb _ _) (IsI.nil _ _) (IsI.gstb _ _) (IsI.nil _ _))⟩
  clear h1x h1y h2x h2y
  go_enter Tryz.func20, Tryz.ntmps20
  go_upto_region 1 with (fail)
  rw [← hW]
  clear hW
  refine rgs 4 [some 12, some 13, some 14, some 15] [IsQ (IsI K (((n1 : Nat) : Int))) (IsI K (((d1 : Nat) : Int))), IsQ (IsI K (((n2 : Nat) : Int))) (IsI K (((d2 : Nat) : Int))), IsV (.int .i64 cc), IsV (.bool false)] [] ?_ ?_
  · refine Rc (ldQ S 5 4 (w.heap.size) 0 (Od.lit 2) ld_Rat rfl rfl) ?_
    refine Rc (ldQ S 3 2 (w.heap.size + 1) 0 (Od.lit 3) ld_Rat rfl rfl) ?_
    refine Rc (cl2 (en Tryz.func28) (Od.lc (Φ := IsQ (IsI K (((n1 : Nat) : Int))) (IsI K (((d1 : Nat) : Int)))) 0 12) (Od.lc (Φ := IsQ (IsI K (((n2 : Nat) : Int))) (IsI K (((d2 : Nat) : Int)))) 1 13) (fun x0 x1 w' hE d0 d1 => rqpCmp d0 d1 HA.out.1 HA.out.2 HB.out.1 HB.out.2 (by have := HK.out; omega) (by have := HK.out; omega) HCC.out)) ?_
    refine Rc (bn (r := .bool false) (Od.loc 2 14) Od.con (hr := fun w => by have hx9 := HCC1.out; go_simp)) ?_
    exact RgAll.nil
  intro v W1 e1 hΦ _
  replace S := S.mono e1
  have v3 : v 3 = .bool false := hΦ 3 (by decide)
  simp only [layL, Act.put, List.setIfInBounds_toArray, List.set_cons_zero, List.set_cons_succ, Nat.reduceAdd]
  rw [v3]
  clear v3 hΦ e1
  refine wpList_nil ?_
  go_upto_region 3 with (fail)
  refine rgs 8 [some 17, some 18, some 19, some 20, some 21, some 22, some 23, some 24] [IsQ (IsI K (((n1 : Nat) : Int))) (IsI K (((d1 : Nat) : Int))), IsV (.int .i64 sa), IsV (.bool false), IsV (.bool false), IsV (undef), IsV (undef), IsV (undef), IsV (.bool false)] [] ?_ ?_
  · refine Rc (ldQ S 5 4 (w.heap.size) 0 (Od.lit 2) ld_Rat rfl rfl) ?_
    refine Rc (cl1 (en Tryz.func55) (Od.lc (Φ := IsQ (IsI K (((n1 : Nat) : Int))) (IsI K (((d1 : Nat) : Int)))) 0 17) (fun x0 w' hE d0 => Calls.mono (rqSign_f (IsP.rat d0 HA.out.1 HA.out.2)) fun _ _ h => h.int HSA.out)) ?_
    refine Rc (bn (r := .bool false) (Od.loc 1 18) Od.con (hr := fun w => by have hx9 := HSA1.out; go_simp)) ?_
    refine Rc (mv (Od.lc 2 19)) ?_
    refine RcN 3 20 false ?_
    refine RcN 3 20 false ?_
    refine RcN 3 20 false ?_
    refine Rc (pk (Od.loc 3 20) Od.con) ?_
    exact RgAll.nil
  intro v W2 e1 hΦ _
  replace S := S.mono e1
  have v7 : v 7 = .bool false := hΦ 7 (by decide)
  simp only [layL, Act.put, List.setIfInBounds_toArray, List.set_cons_zero, List.set_cons_succ, Nat.reduceAdd]
  rw [v7]
  clear v7 hΦ e1
  refine wpList_nil ?_
  go_upto_region 5 with (fail)
  refine rgs 3 [some 26, some 27, some 28] [IsQ (IsI K (((n2 : Nat) : Int))) (IsI K (((d2 : Nat) : Int))), IsV (.int .i64 sb), IsV (.bool false)] [] ?_ ?_
  · refine Rc (ldQ S 3 2 (w.heap.size + 1) 0 (Od.lit 3) ld_Rat rfl rfl) ?_
    refine Rc (cl1 (en Tryz.func55) (Od.lc (Φ := IsQ (IsI K (((n2 : Nat) : Int))) (IsI K (((d2 : Nat) : Int)))) 0 26) (fun x0 w' hE d0 => Calls.mono (rqSign_f (IsP.rat d0 HB.out.1 HB.out.2)) fun _ _ h => h.int HSB.out)) ?_
    refine Rc (bn (r := .bool false) (Od.loc 1 27) Od.con (hr := fun w => by have hx9 := HSB1.out; go_simp)) ?_
    exact RgAll.nil
  intro v W3 e1 hΦ _
  replace S := S.mono e1
  have v2 : v 2 = .bool false := hΦ 2 (by decide)
  simp only [layL, Act.put, List.setIfInBounds_toArray, List.set_cons_zero, List.set_cons_succ, Nat.reduceAdd]
  rw [v2]
  clear v2 hΦ e1
  refine wpList_nil ?_
  go_upto_region 8 with (fail)
  have hl := hid S.lt; have hw := S.ext.size
  refine rgs 4 [some 39, some 40, some 41, some 8] [IsQ (IsI K (((n1 : Nat) : Int))) (IsI K (((d1 : Nat) : Int))), IsI K (((f : Nat) : Int)), IsQ (IsI K (((f : Nat) : Int))) (IsI 2 1), IsBo W3 2] [3] ?_ ?_
  · refine Rc (ldQ S 5 4 (w.heap.size) 0 (Od.lit 2) ld_Rat rfl rfl) ?_
    refine Rc (cl1 (en Tryz.func25) (Od.lc (Φ := IsQ (IsI K (((n1 : Nat) : Int))) (IsI K (((d1 : Nat) : Int)))) 0 39) (fun x0 w' hE d0 => rqpFloor d0 HA.out.1 HA.out.2 HK.out.2 HF.out)) ?_
    refine Rc (cl1 (en Tryz.func29) (Od.lc (Φ := IsI K (((f : Nat) : Int))) 1 40) (fun x0 w' hE d0 => rqWhole_c d0)) ?_
    refine Rc (al al_Rat) ?_
    exact RgAll.nil
  intro v W4 e1 hΦ _
  replace S := S.mono e1
  have h41 := hΦ 2 (by decide)
  obtain ⟨g8, v3, q2, b1, _⟩ := (hΦ 3 (by decide) : IsBo W3 2 (v 3) W4)
  replace S := S.addN 2 (ApartO.old hl.out q2) (Nat.le_trans hw q2) b1
  simp only [newF, List.cons_append, List.nil_append] at S
  simp only [layL, Act.put, List.setIfInBounds_toArray, List.set_cons_zero, List.set_cons_succ, Nat.reduceAdd]
  rw [v3]
  clear b1 hl hw v3 hΦ e1
  try simp only [List.drop_succ_cons, List.drop_zero]
  (with_reducible refine stL ?_ (by rfl)); intro KK hKK; refine stQ S 1 0 (g8) 0 h41 (IsI.gstb _ _) (IsI.gstb _ _) st_Rat (fun W5 S2 G2 => hKK _ _ ?_) rfl rfl
  replace S := S2; clear S2 G2 hKK KK h41
  simp only [List.set_cons_zero, List.set_cons_succ] at S
  refine wpList_nil ?_
  go_upto_region 9 with (fail)
  refine rgs 4 [some 42, some 43, some 44, some 45] [IsQ (IsI K (((f : Nat) : Int))) (IsI 2 1), IsQ (IsI K (((n1 : Nat) : Int))) (IsI K (((d1 : Nat) : Int))), IsV (.int .i64 c1), IsV (.bool false)] [] ?_ ?_
  · refine Rc (ldQ S 1 0 (g8) 0 (Od.lit 8) ld_Rat rfl rfl) ?_
    refine Rc (ldQ S 7 6 (w.heap.size) 0 (Od.lit 2) ld_Rat rfl rfl) ?_
    refine Rc (cl2 (en Tryz.func28) (Od.lc (Φ := IsQ (IsI K (((f : Nat) : Int))) (IsI 2 1)) 0 42) (Od.lc (Φ := IsQ (IsI K (((n1 : Nat) : Int))) (IsI K (((d1 : Nat) : Int)))) 1 43) (fun x0 x1 w' hE d0 d1 => rqpCmp (l := K) (d0.up (Nat.le_refl _) HK.out.1) d1 (Nat.gcd_one_right _) (by decide) HA.out.1 HA.out.2 (by have := HK.out; omega) (by have := HK.out; omega) HC.out)) ?_
    refine Rc (bn (r := .bool false) (Od.loc 2 44) Od.con (hr := fun w => by have hx9 := HC1.out; go_simp)) ?_
    exact RgAll.nil
  intro v W6 e1 hΦ _
  replace S := S.mono e1
  have v3 : v 3 = .bool false := hΦ 3 (by decide)
  simp only [layL, Act.put, List.setIfInBounds_toArray, List.set_cons_zero, List.set_cons_succ, Nat.reduceAdd]
  rw [v3]
  clear v3 hΦ e1
  refine wpList_nil ?_
  go_upto_region 11 with (fail)
  have hl := hid S.lt; have hw := S.ext.size
  refine rgn 5 [some 47, some 48, some 49, some 9, none] [IsQ (IsI K (((f : Nat) : Int))) (IsI 2 1), IsQ (IsI 2 (((1 : Nat) : Int))) (IsI 2 1), IsQ (IsI (K + 3) (((f + 1 : Nat) : Int))) (IsI (K + 3) (((1 : Nat) : Int))), IsNw W6 2, TT] [3] [none, none, none, none, some (3, [IsI (K + 3) (((f + 1 : Nat) : Int)), IsI (K + 3) (((1 : Nat) : Int))])] [none, none, none, none, some 3] 0 ?_ ?_
  · refine RcK (ldQ S 1 0 (g8) 0 (Od.lit 8) ld_Rat rfl rfl) ?_
    refine RcK (cl2 (en Tryz.func27) Od.con Od.con (fun x0 x1 w' hE d0 d1 => by { obtain rfl : x0 = .int .i64 1 := d0; obtain rfl : x1 = .int .i64 1 := d1; exact Calls.mono (rqOf_f w' 1 1 (by decide) (by decide) (by decide)) fun _ _ h => h.mono fun _ _ h => h.eqz one_num one_den })) ?_
    refine RcK (cl2 (en Tryz.func53) (Od.lc (Φ := IsQ (IsI K (((f : Nat) : Int))) (IsI 2 1)) 0 47) (Od.lc (Φ := IsQ (IsI 2 (((1 : Nat) : Int))) (IsI 2 1)) 1 48) (fun x0 x1 w' hE d0 d1 => rqpUp d0 d1 HK.out.1 HK.out.2)) ?_
    refine RcK (alN al_Rat) ?_
    refine RcS 3 (sQ st_Rat (Od.lc (Φ := IsQ (IsI (K + 3) (((f + 1 : Nat) : Int))) (IsI (K + 3) (((1 : Nat) : Int)))) 2 49) (IsI.gstb _ _) (IsI.gstb _ _)) ?_
    exact RgAllN.nil
  intro v W7 e1 hΦ hS _
  replace S := S.mono e1
  obtain ⟨g9, v3, q3, S2⟩ := S.addQ (hΦ 3 (by decide) rfl) (hS 4 (by decide) _ _ rfl) hw (IsI.gstb _ _) (IsI.gstb _ _)
  replace S := S2 (ApartO.old hl.out q3); clear S2
  simp only [layL, Act.put, List.setIfInBounds_toArray, List.set_cons_zero, List.set_cons_succ, Nat.reduceAdd]
  rw [v3]
  clear hl hw v3 hΦ hS e1
  refine wpAny_done (by kernel_rfl) ?_ _
  go_upto_region 12 with (fail)
  refine rgs 4 [some 50, some 51, some 52, some 53] [IsQ (IsI (K + 3) (((f + 1 : Nat) : Int))) (IsI (K + 3) (((1 : Nat) : Int))), IsQ (IsI K (((n2 : Nat) : Int))) (IsI K (((d2 : Nat) : Int))), IsV (.int .i64 c2), IsV (.bool false)] [] ?_ ?_
  · refine Rc (ldQ S 1 0 (g9) 0 (Od.lit 9) ld_Rat rfl rfl) ?_
    refine Rc (ldQ S 7 6 (w.heap.size + 1) 0 (Od.lit 3) ld_Rat rfl rfl) ?_
    refine Rc (cl2 (en Tryz.func28) (Od.lc (Φ := IsQ (IsI (K + 3) (((f + 1 : Nat) : Int))) (IsI (K + 3) (((1 : Nat) : Int)))) 0 50) (Od.lc (Φ := IsQ (IsI K (((n2 : Nat) : Int))) (IsI K (((d2 : Nat) : Int)))) 1 51) (fun x0 x1 w' hE d0 d1 => rqpCmp d0 d1 (Nat.gcd_one_right _) (by decide) HB.out.1 HB.out.2 (by have := HK.out; omega) (by have := HK.out; omega) HD.out)) ?_
    refine Rc (bn (r := .bool false) (Od.loc 2 52) Od.con (hr := fun w => by have hx9 := HD1.out; go_simp)) ?_
    exact RgAll.nil
  intro v W8 e1 hΦ _
  replace S := S.mono e1
  have v3 : v 3 = .bool false := hΦ 3 (by decide)
  simp only [layL, Act.put, List.setIfInBounds_toArray, List.set_cons_zero, List.set_cons_succ, Nat.reduceAdd]
  rw [v3]
  clear v3 hΦ e1
  refine wpList_nil ?_
  go_upto_region 14 with (fail)
  have hl := hid S.lt; have hw := S.ext.size
  refine rgn 15 [some 56, some 57, some 58, some 59, some 60, some 61, some 62, some 63, some 64, some 55, some 65, some 66, some 10, none, some 11] [IsQ (IsI K (((n2 : Nat) : Int))) (IsI K (((d2 : Nat) : Int))), IsQ (IsI K (((f : Nat) : Int))) (IsI 2 1), IsQ (IsI K (((r2 : Nat) : Int))) (IsI K (((d2 : Nat) : Int))), IsQ (IsI K (((d2 : Nat) : Int))) (IsI K (((r2 : Nat) : Int))), IsQ (IsI K (((n1 : Nat) : Int))) (IsI K (((d1 : Nat) : Int))), IsQ (IsI K (((f : Nat) : Int))) (IsI 2 1), IsQ (IsI K (((r1 : Nat) : Int))) (IsI K (((d1 : Nat) : Int))), IsQ (IsI K (((d1 : Nat) : Int))) (IsI K (((r1 : Nat) : Int))), IsT2 (IsQ (IsI K (((p : Nat) : Int))) (IsI K (((q : Nat) : Int)))) (IsV (.int .i64 0)), IsT2 (IsQ (IsI K (((p : Nat) : Int))) (IsI K (((q : Nat) : Int)))) (IsV (.int .i64 0)), IsQ (IsI K (((p : Nat) : Int))) (IsI K (((q : Nat) : Int))), IsV (.int .i64 0), IsNw W8 2, TT, IsV (.int .i64 0)] [12] [none, none, none, none, none, none, none, none, none, none, none, none, none, some (12, [IsI K (((p : Nat) : Int)), IsI K (((q : Nat) : Int))]), none] [none, none, none, none, none, none, none, none, none, none, none, none, none, some 12, none] 0 ?_ ?_
  · refine RcK (ldQ S 7 6 (w.heap.size + 1) 0 (Od.lit 3) ld_Rat rfl rfl) ?_
    refine RcK (ldQ S 3 2 (g8) 0 (Od.lit 8) ld_Rat rfl rfl) ?_
    refine RcK (cl2 (en Tryz.func54) (Od.lc (Φ := IsQ (IsI K (((n2 : Nat) : Int))) (IsI K (((d2 : Nat) : Int)))) 0 56) (Od.lc (Φ := IsQ (IsI K (((f : Nat) : Int))) (IsI 2 1)) 1 57) (fun x0 x1 w' hE d0 d1 => rqpSub d0 d1 HB.out.1 HB.out.2 HK.out.1 HK.out.2 HR2.out.1 HR2.out.2)) ?_
    refine RcK (cl1 (en Tryz.func80) (Od.lc (Φ := IsQ (IsI K (((r2 : Nat) : Int))) (IsI K (((d2 : Nat) : Int)))) 2 58) (fun x0 w' hE d0 => rqflip_f d0)) ?_
    refine RcK (ldQ S 9 8 (w.heap.size) 0 (Od.lit 2) ld_Rat rfl rfl) ?_
    refine RcK (ldQ S 3 2 (g8) 0 (Od.lit 8) ld_Rat rfl rfl) ?_
    refine RcK (cl2 (en Tryz.func54) (Od.lc (Φ := IsQ (IsI K (((n1 : Nat) : Int))) (IsI K (((d1 : Nat) : Int)))) 4 60) (Od.lc (Φ := IsQ (IsI K (((f : Nat) : Int))) (IsI 2 1)) 5 61) (fun x0 x1 w' hE d0 d1 => rqpSub d0 d1 HA.out.1 HA.out.2 HK.out.1 HK.out.2 HR1.out.1 HR1.out.2)) ?_
    refine RcK (cl1 (en Tryz.func80) (Od.lc (Φ := IsQ (IsI K (((r1 : Nat) : Int))) (IsI K (((d1 : Nat) : Int)))) 6 62) (fun x0 w' hE d0 => rqflip_f d0)) ?_
    refine RcK (cl2 (en Tryz.func20) (Od.lc (Φ := IsQ (IsI K (((d2 : Nat) : Int))) (IsI K (((r2 : Nat) : Int)))) 3 59) (Od.lc (Φ := IsQ (IsI K (((d1 : Nat) : Int))) (IsI K (((r1 : Nat) : Int)))) 7 63) (fun x0 x1 w' hE d0 d1 => IH.out _ _ _ d0 d1)) ?_
    refine RcK (mv (Od.lc 8 64)) ?_
    refine RcK (ex (Od.loc 9 55) t20) ?_
    refine RcK (ex (Od.loc 9 55) t21) ?_
    refine RcK (alN al_Rat) ?_
    refine RcS 12 (sQ st_Rat (Od.lc (Φ := IsQ (IsI K (((p : Nat) : Int))) (IsI K (((q : Nat) : Int)))) 10 65) (IsI.gstb _ _) (IsI.gstb _ _)) ?_
    refine RcK (mv (Od.lc 11 66)) ?_
    exact RgAllN.nil
  intro v W9 e1 hΦ hS _
  replace S := S.mono e1
  obtain ⟨g10, v12, q4, S2⟩ := S.addQ (hΦ 12 (by decide) rfl) (hS 13 (by decide) _ _ rfl) hw (IsI.gstb _ _) (IsI.gstb _ _)
  replace S := S2 (ApartO.old hl.out q4); clear S2
  simp only [layL, Act.put, List.setIfInBounds_toArray, List.set_cons_zero, List.set_cons_succ, Nat.reduceAdd]
  rw [v12]
  clear hl hw v12 hΦ hS e1
  refine wpAny_done (by kernel_rfl) ?_ _
  go_upto_region 15 with (fail)
  refine rg 4 [some 67, some 68, some 69, some 70] [IsQ (IsI K (((f : Nat) : Int))) (IsI 2 1), IsQ (IsI K (((p : Nat) : Int))) (IsI K (((q : Nat) : Int))), IsQ (IsI K (((q : Nat) : Int))) (IsI K (((p : Nat) : Int))), IsQ (IsI K (((f * p + q : Nat) : Int))) (IsI K (((p : Nat) : Int)))] [] 2 ?_ ?_
  · refine Rc (ldQ S 5 4 (g8) 0 (Od.lit 8) ld_Rat rfl rfl) ?_
    refine Rc (ldQ S 1 0 (g10) 0 (Od.lit 10) ld_Rat rfl rfl) ?_
    refine Rc (cl1 (en Tryz.func80) (Od.lc (Φ := IsQ (IsI K (((p : Nat) : Int))) (IsI K (((q : Nat) : Int)))) 1 68) (fun x0 w' hE d0 => rqflip_f d0)) ?_
    refine Rc (cl2 (en Tryz.func53) (Od.lc (Φ := IsQ (IsI K (((f : Nat) : Int))) (IsI 2 1)) 0 67) (Od.lc (Φ := IsQ (IsI K (((q : Nat) : Int))) (IsI K (((p : Nat) : Int)))) 2 69) (fun x0 x1 w' hE d0 d1 => rqpAdd d0 d1 HG.out.1 HG.out.2.1 HK.out.1 HK.out.2 HG.out.2.2)) ?_
    exact RgAll.nil
  intro v W10 e1 hΦ _
  replace S := S.mono e1
  have h70 := hΦ 3 (by decide)
  simp only [layL, Act.put, List.setIfInBounds_toArray, List.set_cons_zero, List.set_cons_succ, Nat.reduceAdd]
  clear hΦ e1
  refine stA 4 (h := fun KK hKK => stQ S 7 6 (w.heap.size + 1 + 1) 0 h70 (IsI.gstb _ _) (IsI.gstb _ _) st_Rat (fun W11 S2 G2 => hKK _ _ ?_) rfl rfl)
  replace S := S2; clear S2 G2 hKK KK h70
  simp only [List.set_cons_zero, List.set_cons_succ] at S
  refine wpAny_ready (rs := [5]) (by kernel_rfl) (by simp) (AllReady.cons rfl (fun K hK => ?_) AllReady.nil); go_simp; refine hK _ _ ?_; clear hK K
  refine wpAny_done (by kernel_rfl) ?_ _
  go_wp2_with fail
  obtain ⟨s90x, a90x, n90x, c90x, b90x, h90x⟩ := S.at 7 (w.heap.size + 1 + 1) 0 (IsI K (((f * p + q : Nat) : Int))) rfl; have L90xa : World.cell? W11 ⟨w.heap.size + 1 + 1, 0, none⟩ = some (.bool s90x) := b90x.c0; have L90xb : World.cell? W11 ⟨w.heap.size + 1 + 1, 1, none⟩ = some (.slice a90x n90x c90x) := b90x.c1
  obtain ⟨s90y, a90y, n90y, c90y, b90y, h90y⟩ := S.at 6 (w.heap.size + 1 + 1) 1 (IsI K (((p : Nat) : Int))) rfl; have L90ya : World.cell? W11 ⟨w.heap.size + 1 + 1, 2, none⟩ = some (.bool s90y) := b90y.c0; have L90yb : World.cell? W11 ⟨w.heap.size + 1 + 1, 3, none⟩ = some (.slice a90y n90y c90y) := b90y.c1
  exact bodyPost_ret (v := .tuple #[.agg #[.bool s90x, .slice a90x n90x c90x, .bool s90y, .slice a90y n90y c90y], .int .i64 0]) (by simp [results, Tryz.results20, go_sem, L90xa, L90xb, L90ya, L90yb]) rfl (⟨_, rfl, S.ext, ⟨_, _, rfl, ⟨_, _, _, _, _, _, _, _, rfl, h90x, h90y⟩, rfl⟩⟩)

theorem rqBtw_p (K : Nat) (hK : 2 ≤ K ∧ K ≤ 1000) : ∀ (m n1 d1 n2 d2 : Nat) (x y : Value) (w : World), IsP K n1 d1 x w → IsP K n2 d2 y w → Nat.gcd n1 d1 = 1 → Nat.gcd n2 d2 = 1 → 0 < n1 → 0 < d1 → 0 < d2 → n1 * d2 ≤ n2 * d1 → d1 + d2 < m →
    Calls Tryz.prog 20 #[x, y] w (Ret w (IsT2 (IsP K (smp m n1 d1 n2 d2).1 (smp m n1 d1 n2 d2).2) (IsV (.int .i64 0)))) := by
  intro m
  induction m with
  | zero => intros; omega
  | succ m ih =>
    intro n1 d1 n2 d2 x y w hx hy g1 g2 hn h1 h2 hle hm
    have hdm : n1 = n1 / d1 * d1 + n1 % d1 := by rw [Nat.mul_comm]; exact (Nat.div_add_mod n1 d1).symm
    have hlt := Nat.mod_lt n1 h1
    have hall := smp_ok (m + 1) n1 d1 n2 d2 hn h1 h2 hle hm
    have hb := hall.num_le h1 hle
    have hs1 : n1 < 4294967296 ^ K := by have := hx.sizes.1; rwa [Int.natAbs_natCast] at this
    have hcc1 : decide (0 < cmpI ((n1 * d2 : Nat) : Int) ((n2 * d1 : Nat) : Int)) = false := by
      rw [decide_eq_false_iff_not]; unfold cmpI
      split
      · decide
      · rw [if_neg (by omega)]; decide
    have hsa1 : decide ((frac n1 d1).num.sign ≤ 0) = false := by rw [frac_num g1 h1, Int.sign_eq_one_of_pos (by omega)]; decide
    have hsb1 : decide ((frac n2 d2).num.sign < 0) = false := by
      have hn2 : 0 < n2 := Nat.pos_of_ne_zero fun h => by
        subst h
        have : 0 < n1 * d2 := Nat.mul_pos hn h2
        omega
      rw [frac_num g2 h2, Int.sign_eq_one_of_pos (by omega)]; decide
    unfold smp at hall hb ⊢
    by_cases h0 : n1 % d1 = 0
    · rw [if_pos h0]
      refine Calls.mono (rqBtw_A hx hy hK ⟨g1, h1⟩ ⟨g2, h2⟩ rfl hcc1 rfl hsa1 rfl hsb1 rfl rfl ?_) fun _ _ h => h.mono fun _ _ ⟨a, b, h1, h3, h4⟩ => ⟨a, b, h1, h3.up (Nat.le_refl _) hK.1, h4⟩
      rw [cmpI_eq (by omega)]; rfl
    · rw [if_neg h0] at hall hb ⊢
      have hc1 : (cmpI ((n1 / d1 * d1 : Nat) : Int) ((n1 * 1 : Nat) : Int) == 0) = false := by rw [cmpI_lt (by omega)]; rfl
      by_cases hup : (n1 / d1 + 1) * d2 ≤ n2
      · rw [if_pos hup] at hall hb ⊢
        refine Calls.mono (rqBtw_B hx hy hK ⟨g1, h1⟩ ⟨g2, h2⟩ rfl hcc1 rfl hsa1 rfl hsb1 rfl rfl hc1 rfl ?_) fun _ _ h => h.mono fun _ _ ⟨a, b, h1, h3, h4⟩ => ⟨a, b, h1, h3.tight (by rw [Int.natAbs_natCast]; exact Nat.lt_of_le_of_lt hb.1 hs1) ?_, h4⟩
        · rw [decide_eq_true_iff]
          unfold cmpI
          split
          · decide
          · rw [if_neg (by omega)]; decide
        · exact (Nat.one_lt_pow (by omega) (by decide) : 1 < 4294967296 ^ K)
      · rw [if_neg hup] at hall hb ⊢
        have k1 : 0 < n1 % d1 := Nat.pos_of_ne_zero h0
        have hfd : n1 / d1 * d2 ≤ n2 := by
          refine Nat.le_of_mul_le_mul_right (?_ : n1 / d1 * d2 * d1 ≤ n2 * d1) h1
          refine Nat.le_trans ?_ hle
          rw [Nat.mul_assoc, Nat.mul_comm d2 d1, ← Nat.mul_assoc]
          exact Nat.mul_le_mul_right _ (by omega)
        have hr2 : n2 - n1 / d1 * d2 < d2 := by rw [Nat.add_mul] at hup; omega
        obtain ⟨k2, k3⟩ := smp_step h2 hdm (show n2 = n1 / d1 * d2 + (n2 - n1 / d1 * d2) by omega) k1 hle
        have g1' : Nat.gcd d1 (n1 % d1) = 1 := by have := gcd_sub (f := n1 / d1) g1 (by omega); rw [Nat.gcd_comm, show n1 % d1 = n1 - n1 / d1 * d1 by omega]; exact this
        have g2' : Nat.gcd d2 (n2 - n1 / d1 * d2) = 1 := by rw [Nat.gcd_comm]; exact gcd_sub g2 hfd
        have hsm := smp_ok m d2 (n2 - n1 / d1 * d2) d1 (n1 % d1) h2 k2 k1 k3 (by omega)
        have hbb := hb.1
        dsimp only at hbb
        refine rqBtw_C hx hy hK ⟨g1, h1⟩ ⟨g2, h2⟩ rfl hcc1 rfl hsa1 rfl hsb1 rfl rfl hc1 rfl ?_ ⟨by omega, by omega⟩ ⟨hfd, rfl⟩ ⟨by rw [Nat.gcd_comm]; exact hsm.co, hsm.p0, Nat.lt_of_le_of_lt hbb hs1⟩ fun w' x y hx' hy' =>
          ih d2 (n2 - n1 / d1 * d2) d1 (n1 % d1) x y w' hx' hy' g2' g1' h2 k2 k1 k3 (by omega)
        rw [decide_eq_false_iff_not]
        rw [cmpI_gt (by omega)]
        decide


theorem rqBtw_pos {k : Nat} (h2 : 2 ≤ k) (hk : k ≤ 1000) {p q : Rat} (hp : 0 < p.num) (hle : p ≤ q) (w : World) (x y : Value) (hx : IsRat k p x w) (hy : IsRat k q y w) :
    Calls Tryz.prog 20 #[x, y] w (Ret w (IsT2 (IsRat k (frac (smp (p.den + q.den + 1) p.num.toNat p.den q.num.toNat q.den).1 (smp (p.den + q.den + 1) p.num.toNat p.den q.num.toNat q.den).2)) (IsV (.int .i64 0)))) := by
  have hs := smp_rat hp hle
  have hl := le_smp hp hle
  exact Calls.mono (rqBtw_p k ⟨h2, hk⟩ _ _ _ _ _ x y w (hx.toP hp) (hy.toP hl.2) (cop_pos hp) (cop_pos hl.2) (by omega) p.den_pos q.den_pos hl.1 (by omega)) fun _ _ h => h.mono fun _ _ ⟨a, b, h1, h3, h4⟩ => ⟨a, b, h1, h3.rat hs.co hs.q0, h4⟩
theorem rqBetweenE_f {k : Nat} {p q : Rat} {x y : Value} {w : World} (hx : IsRat k p x w) (hy : IsRat k q y w) (hk : k ≤ 1000) (hlt : q < p) : Calls Tryz.prog 20 #[x, y] w (Ret w (IsT2 (IsQ (IsI 0 0) (IsI 0 0)) (IsV (.int .i64 1)))) :=
  rqBtw_E hx hy hk (cmpQ_gt hlt) (by decide)
theorem rqBetween_f {k : Nat} {p q : Rat} {x y : Value} {w : World} (hx : IsRat k p x w) (hy : IsRat k q y w) (h2 : 2 ≤ k) (hk : k ≤ 1000) (hle : p ≤ q) : Calls Tryz.prog 20 #[x, y] w (Ret w (IsT2 (IsRat k (btwQ p q)) (IsV (.int .i64 0)))) := by
  unfold btwQ
  by_cases hp : 0 < p.num
  · rw [if_pos hp]
    exact rqBtw_pos h2 hk hp hle w x y hx hy
  · rw [if_neg hp]
    have hs0 : p.num.sign ≤ 0 := by have := mt Int.sign_pos_iff.1 hp; omega
    by_cases hq : q.num < 0
    · rw [if_pos hq]
      refine rqBtw_N hx hy hk rfl (cmpQ_le hle) rfl hs0 rfl (Int.sign_neg_iff.2 hq) ?_
      exact fun w' x y hx' hy' => rqBtw_pos (p := -q) (q := -p) h2 hk (by show 0 < -q.num; omega) (le_neg hle) w' x y hx' hy'
    · rw [if_neg hq]
      have hs1 : 0 ≤ q.num.sign := by have := mt Int.sign_neg_iff.1 hq; omega
      exact Calls.mono (rqBtw_Z hx hy hk rfl (cmpQ_le hle) rfl hs0 rfl hs1) fun _ _ h => h.mono fun _ _ ⟨a, b, h1, h3, h4⟩ => ⟨a, b, h1, h3.up h2 h2, h4⟩
end Go.Proofs.YtcgdkfadcglekaaGreatDoor
