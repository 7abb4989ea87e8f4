/-
  The reference of package rational: New, Of, Whole, sums, products, quotients, the order, signs, floors. Every fraction of at most 2^17 words. (Printed by wip/gen/rat2.py.)
-/
import Derived.Test.YtcgdkfadcglekaaGreatDoorQ1
import Derived.Test.YtcgdkfadcglekaaGreatDoorRGcd
namespace Go.Proofs.YtcgdkfadcglekaaGreatDoor
open Go Go.RowKit

set_option maxRecDepth 100000 in
set_option maxHeartbeats 4000000 in
theorem rqNew0_f {k1 k2 : Nat} {z1 z2 : Int} {x y : Value} {w : World} (hx : IsI k1 z1 x w) (hy : IsI k2 z2 y w) (hz : z2 = 0) :
    Calls Tryz.prog 52 #[x, y] w (Ret w (IsT2 (IsQ (IsI 0 0) (IsI 0 0)) (IsV (.int .i64 4)))) := by
  obtain ⟨sg, hsg⟩ : ∃ s, z2.sign = s := ⟨_, rfl⟩
  have HSG := hid hsg
  have HS0 := hid (show (sg == 0) = true by rw [← hsg, hz]; rfl)
  clear hz hsg
  obtain ⟨s1, a1, n1, c1, rfl, h1⟩ := hx
  have h1 : IsI _ _ _ w := ⟨_, _, _, _, rfl, h1⟩
  obtain ⟨s2, a2, n2, c2, rfl, h2⟩ := hy
  have h2 : IsI _ _ _ w := ⟨_, _, _, _, rfl, h2⟩
  obtain ⟨W, hW, S⟩ : ∃ W, W = ((w.alloc (.cells #[.bool s1, .slice a1 n1 c1] 29)).alloc (.cells #[.bool s2, .slice a2 n2 c2] 29)).alloc (.cells #[.bool false, .slice none 0 0, .bool false, .slice none 0 0] 31) ∧ Sto w W [((w.heap.size + 1 + 1, 1), IsI 0 0), ((w.heap.size + 1 + 1, 0), IsI 0 0), ((w.heap.size + 1, 0), IsI k2 z2), ((w.heap.size, 0), IsI k1 z1)] := ⟨_, rfl, ((((Sto.start w).new1 (w.heap.size) (by simp) s1 a1 n1 c1 29 (IsI k1 z1) (IsI.gstb _ _) (h1)).new1 (w.heap.size + 1) (by simp) s2 a2 n2 c2 29 (IsI k2 z2) (IsI.gstb _ _) (h2.ext ((Ext.refl _).alloc _))).new2 (w.heap.size + 1 + 1) (by simp) false false none none 0 0 0 0 31 (IsI 0 0) (IsI 0 0) (IsI.gstb _ _) (IsI.nil _ _) (IsI.gstb _ _) (IsI.nil _ _))⟩
  clear h1 h2
  go_enter Tryz.func52, Tryz.ntmps52
  go_upto_region 1 with (fail)
  rw [← hW]
  clear hW
  refine rgs 3 [some 7, some 8, some 9] [IsI k2 z2, IsV (.int .i64 sg), IsV (.bool true)] [] ?_ ?_
  · refine Rc (ldI S 2 (w.heap.size + 1) 0 (Od.lit 3) ld_Int) ?_
    refine Rc (cl1 (en Tryz.func33) (Od.lc (Φ := IsI k2 z2) 0 7) (fun x0 w' hE d0 => Calls.mono (RSign_f d0) fun _ _ h => h.int (HSG.out))) ?_
    refine Rc (bn (r := .bool true) (Od.loc 1 8) Od.con (hr := fun w => by have hx9 := HS0.out; go_simp)) ?_
    exact RgAll.nil
  intro v W1 e1 hΦ _
  replace S := S.mono e1
  have v2 : v 2 = .bool true := hΦ 2 (by decide)
  simp only [layL, Act.put, List.setIfInBounds_toArray, List.set_cons_zero, List.set_cons_succ, Nat.reduceAdd]
  rw [v2]
  clear v2 hΦ e1
  refine wpList_nil ?_
  go_upto_region 2 with (fail)
  refine rgs 1 [some 10] [IsQ (IsI 0 0) (IsI 0 0)] [] ?_ ?_
  · refine Rc (b0 z_Rat nilQ) ?_
    exact RgAll.nil
  intro v W2 e1 hΦ _
  replace S := S.mono e1
  have h10 := hΦ 0 (by decide)
  simp only [layL, Act.put, List.setIfInBounds_toArray, List.set_cons_zero, List.set_cons_succ]
  clear hΦ e1
  try simp only [List.drop_succ_cons, List.drop_zero]
  (with_reducible refine stL ?_ (by rfl)); intro KK hKK; refine stQ S 1 0 (w.heap.size + 1 + 1) 0 h10 (IsI.gstb _ _) (IsI.gstb _ _) st_Rat (fun W3 S2 G2 => hKK _ _ ?_) rfl rfl
  replace S := S2; clear S2 G2 hKK KK h10
  simp only [List.set_cons_zero, List.set_cons_succ] at S
  refine wpList_step fun K hK => ?_; go_simp; refine hK _ _ ?_; clear hK K
  refine wpList_nil ?_
  go_wp2_with fail
  obtain ⟨s90x, a90x, n90x, c90x, b90x, h90x⟩ := S.at 1 (w.heap.size + 1 + 1) 0 (IsI 0 0) rfl; have L90xa : World.cell? W3 ⟨w.heap.size + 1 + 1, 0, none⟩ = some (.bool s90x) := b90x.c0; have L90xb : World.cell? W3 ⟨w.heap.size + 1 + 1, 1, none⟩ = some (.slice a90x n90x c90x) := b90x.c1
  obtain ⟨s90y, a90y, n90y, c90y, b90y, h90y⟩ := S.at 0 (w.heap.size + 1 + 1) 1 (IsI 0 0) rfl; have L90ya : World.cell? W3 ⟨w.heap.size + 1 + 1, 2, none⟩ = some (.bool s90y) := b90y.c0; have L90yb : World.cell? W3 ⟨w.heap.size + 1 + 1, 3, none⟩ = some (.slice a90y n90y c90y) := b90y.c1
  exact bodyPost_ret (v := .tuple #[.agg #[.bool s90x, .slice a90x n90x c90x, .bool s90y, .slice a90y n90y c90y], .int .i64 4]) (by simp [results, Tryz.results52, go_sem, L90xa, L90xb, L90ya, L90yb]) rfl (⟨_, rfl, S.ext, _, _, rfl, ⟨_, _, _, _, _, _, _, _, rfl, h90x, h90y⟩, rfl⟩)

set_option maxRecDepth 100000 in
set_option maxHeartbeats 4000000 in
theorem rqNewpos_c {k1 k2 : Nat} {z1 z2 : Int} {x y : Value} {w : World} (hx : IsI k1 z1 x w) (hy : IsI k2 z2 y w) (l1 : k1 ≤ 1048576) (l2 : k2 ≤ 1048576) (hz : 0 < z2) (qn qd : Int) (hn : z1 / ((Int.gcd z1 z2 : Nat) : Int) = qn) (hd : z2 / ((Int.gcd z1 z2 : Nat) : Int) = qd) :
    Calls Tryz.prog 52 #[x, y] w (Ret w (IsT2 (IsQ (IsI k1 qn) (IsI k2 qd)) (IsV (.int .i64 0)))) := by
  obtain ⟨sg, hsg⟩ : ∃ s, z2.sign = s := ⟨_, rfl⟩
  have HSG := hid hsg
  have hs : sg = 1 := by rw [← hsg]; exact Int.sign_eq_one_of_pos hz
  have HS0 := hid (show (sg == 0) = false by rw [hs]; decide)
  have HS1 := hid (show decide (sg < 0) = false by rw [hs]; decide)
  have HG := hid (show ((Int.gcd z1 z2 : Nat) : Int) ≠ 0 by intro h; have := ((Int.gcd_eq_zero_iff (a := z1) (b := z2)).1 (by omega)).2; omega)
  have HN := hid hn
  have HD := hid hd
  clear hz hn hd hsg hs
  obtain ⟨s1, a1, n1, c1, rfl, h1⟩ := hx
  have h1 : IsI _ _ _ w := ⟨_, _, _, _, rfl, h1⟩
  obtain ⟨s2, a2, n2, c2, rfl, h2⟩ := hy
  have h2 : IsI _ _ _ w := ⟨_, _, _, _, rfl, h2⟩
  obtain ⟨W, hW, S⟩ : ∃ W, W = ((w.alloc (.cells #[.bool s1, .slice a1 n1 c1] 29)).alloc (.cells #[.bool s2, .slice a2 n2 c2] 29)).alloc (.cells #[.bool false, .slice none 0 0, .bool false, .slice none 0 0] 31) ∧ Sto w W [((w.heap.size + 1 + 1, 1), IsI 0 0), ((w.heap.size + 1 + 1, 0), IsI 0 0), ((w.heap.size + 1, 0), IsI k2 z2), ((w.heap.size, 0), IsI k1 z1)] := ⟨_, rfl, ((((Sto.start w).new1 (w.heap.size) (by simp) s1 a1 n1 c1 29 (IsI k1 z1) (IsI.gstb _ _) (h1)).new1 (w.heap.size + 1) (by simp) s2 a2 n2 c2 29 (IsI k2 z2) (IsI.gstb _ _) (h2.ext ((Ext.refl _).alloc _))).new2 (w.heap.size + 1 + 1) (by simp) false false none none 0 0 0 0 31 (IsI 0 0) (IsI 0 0) (IsI.gstb _ _) (IsI.nil _ _) (IsI.gstb _ _) (IsI.nil _ _))⟩
  clear h1 h2
  go_enter Tryz.func52, Tryz.ntmps52
  go_upto_region 1 with (fail)
  rw [← hW]
  clear hW
  refine rgs 3 [some 7, some 8, some 9] [IsI k2 z2, IsV (.int .i64 sg), IsV (.bool false)] [] ?_ ?_
  · refine Rc (ldI S 2 (w.heap.size + 1) 0 (Od.lit 3) ld_Int) ?_
    refine Rc (cl1 (en Tryz.func33) (Od.lc (Φ := IsI k2 z2) 0 7) (fun x0 w' hE d0 => Calls.mono (RSign_f d0) fun _ _ h => h.int (HSG.out))) ?_
    refine Rc (bn (r := .bool false) (Od.loc 1 8) Od.con (hr := fun w => by have hx9 := HS0.out; go_simp)) ?_
    exact RgAll.nil
  intro v W1 e1 hΦ _
  replace S := S.mono e1
  have v2 : v 2 = .bool false := hΦ 2 (by decide)
  simp only [layL, Act.put, List.setIfInBounds_toArray, List.set_cons_zero, List.set_cons_succ, Nat.reduceAdd]
  rw [v2]
  clear v2 hΦ e1
  refine wpList_nil ?_
  go_upto_region 3 with (fail)
  have hl := hid S.lt; have hw := S.ext.size
  refine rgs 4 [some 11, some 12, some 13, some 6] [IsI k1 z1, IsI k2 z2, IsI (max k1 k2) (((Int.gcd z1 z2 : Nat) : Int)), IsBo W1 1] [3] ?_ ?_
  · refine Rc (ldI S 3 (w.heap.size) 0 (Od.lit 2) ld_Int) ?_
    refine Rc (ldI S 2 (w.heap.size + 1) 0 (Od.lit 3) ld_Int) ?_
    refine Rc (cl2 (en Tryz.func90) (Od.lc (Φ := IsI k1 z1) 0 11) (Od.lc (Φ := IsI k2 z2) 1 12) (fun x0 x1 w' hE d0 d1 => RGcd_f d0 d1 (by omega) (by omega))) ?_
    refine Rc (al al_Int) ?_
    exact RgAll.nil
  intro v W2 e1 hΦ _
  replace S := S.mono e1
  have h13 := hΦ 2 (by decide)
  obtain ⟨g6, v3, q2, b1, _⟩ := (hΦ 3 (by decide) : IsBo W1 1 (v 3) W2)
  replace S := S.addN 1 (ApartO.old hl.out q2) (Nat.le_trans hw q2) b1
  simp only [newF, List.cons_append, List.nil_append] at S
  simp only [layL, Act.put, List.setIfInBounds_toArray, List.set_cons_zero, List.set_cons_succ, Nat.reduceAdd]
  rw [v3]
  clear b1 hl hw v3 hΦ e1
  try simp only [List.drop_succ_cons, List.drop_zero]
  (with_reducible refine stL ?_ (by rfl)); intro KK hKK; refine stI S 0 (g6) 0 h13 st_Int (fun W3 S2 G2 => hKK _ _ ?_) rfl
  replace S := S2; clear S2 G2 hKK KK h13
  simp only [List.set_cons_zero] at S
  refine wpList_nil ?_
  go_upto_region 4 with (fail)
  refine rgs 3 [some 14, some 15, some 16] [IsI k2 z2, IsV (.int .i64 sg), IsV (.bool false)] [] ?_ ?_
  · refine Rc (ldI S 3 (w.heap.size + 1) 0 (Od.lit 3) ld_Int) ?_
    refine Rc (cl1 (en Tryz.func33) (Od.lc (Φ := IsI k2 z2) 0 14) (fun x0 w' hE d0 => Calls.mono (RSign_f d0) fun _ _ h => h.int (HSG.out))) ?_
    refine Rc (bn (r := .bool false) (Od.loc 1 15) Od.con (hr := fun w => by have hx9 := HS1.out; go_simp)) ?_
    exact RgAll.nil
  intro v W4 e1 hΦ _
  replace S := S.mono e1
  have v2 : v 2 = .bool false := hΦ 2 (by decide)
  simp only [layL, Act.put, List.setIfInBounds_toArray, List.set_cons_zero, List.set_cons_succ, Nat.reduceAdd]
  rw [v2]
  clear v2 hΦ e1
  refine wpList_nil ?_
  go_upto_region 6 with (fail)
  refine rg 7 [some 19, some 20, some 21, some 22, some 23, some 24, some 25] [IsI k1 z1, IsI (max k1 k2) (((Int.gcd z1 z2 : Nat) : Int)), IsI k1 qn, IsI k2 z2, IsI (max k1 k2) (((Int.gcd z1 z2 : Nat) : Int)), IsI k2 qd, IsQ (IsI k1 qn) (IsI k2 qd)] [] 2 ?_ ?_
  · refine Rc (ldI S 4 (w.heap.size) 0 (Od.lit 2) ld_Int) ?_
    refine Rc (ldI S 0 (g6) 0 (Od.lit 6) ld_Int) ?_
    refine Rc (cl2 (en Tryz.func83) (Od.lc (Φ := IsI k1 z1) 0 19) (Od.lc (Φ := IsI (max k1 k2) (((Int.gcd z1 z2 : Nat) : Int))) 1 20) (fun x0 x1 w' hE d0 d1 => Calls.mono (RDiv_f d0 d1 (by omega) (by omega) HG.out) fun _ _ h => h.eqz HN.out)) ?_
    refine Rc (ldI S 3 (w.heap.size + 1) 0 (Od.lit 3) ld_Int) ?_
    refine Rc (ldI S 0 (g6) 0 (Od.lit 6) ld_Int) ?_
    refine Rc (cl2 (en Tryz.func83) (Od.lc (Φ := IsI k2 z2) 3 22) (Od.lc (Φ := IsI (max k1 k2) (((Int.gcd z1 z2 : Nat) : Int))) 4 23) (fun x0 x1 w' hE d0 d1 => Calls.mono (RDiv_f d0 d1 (by omega) (by omega) HG.out) fun _ _ h => h.eqz HD.out)) ?_
    refine Rc (bq (Od.loc 2 21) (Od.loc 5 24) bd_Rat) ?_
    exact RgAll.nil
  intro v W5 e1 hΦ _
  replace S := S.mono e1
  have h25 := hΦ 6 (by decide)
  simp only [layL, Act.put, List.setIfInBounds_toArray, List.set_cons_zero, List.set_cons_succ, Nat.reduceAdd]
  clear hΦ e1
  refine stA 7 (h := fun KK hKK => stQ S 2 1 (w.heap.size + 1 + 1) 0 h25 (IsI.gstb _ _) (IsI.gstb _ _) st_Rat (fun W6 S2 G2 => hKK _ _ ?_) rfl rfl)
  replace S := S2; clear S2 G2 hKK KK h25
  simp only [List.set_cons_zero, List.set_cons_succ] at S
  refine wpAny_ready (rs := [8]) (by kernel_rfl) (by simp) (AllReady.cons rfl (fun K hK => ?_) AllReady.nil); go_simp; refine hK _ _ ?_; clear hK K
  refine wpAny_done (by kernel_rfl) ?_ _
  go_wp2_with fail
  obtain ⟨s90x, a90x, n90x, c90x, b90x, h90x⟩ := S.at 2 (w.heap.size + 1 + 1) 0 (IsI k1 qn) rfl; have L90xa : World.cell? W6 ⟨w.heap.size + 1 + 1, 0, none⟩ = some (.bool s90x) := b90x.c0; have L90xb : World.cell? W6 ⟨w.heap.size + 1 + 1, 1, none⟩ = some (.slice a90x n90x c90x) := b90x.c1
  obtain ⟨s90y, a90y, n90y, c90y, b90y, h90y⟩ := S.at 1 (w.heap.size + 1 + 1) 1 (IsI k2 qd) rfl; have L90ya : World.cell? W6 ⟨w.heap.size + 1 + 1, 2, none⟩ = some (.bool s90y) := b90y.c0; have L90yb : World.cell? W6 ⟨w.heap.size + 1 + 1, 3, none⟩ = some (.slice a90y n90y c90y) := b90y.c1
  exact bodyPost_ret (v := .tuple #[.agg #[.bool s90x, .slice a90x n90x c90x, .bool s90y, .slice a90y n90y c90y], .int .i64 0]) (by simp [results, Tryz.results52, go_sem, L90xa, L90xb, L90ya, L90yb]) rfl (⟨_, rfl, S.ext, _, _, rfl, ⟨_, _, _, _, _, _, _, _, rfl, h90x, h90y⟩, rfl⟩)

set_option maxRecDepth 100000 in
set_option maxHeartbeats 4000000 in
theorem rqNewneg_c {k1 k2 : Nat} {z1 z2 : Int} {x y : Value} {w : World} (hx : IsI k1 z1 x w) (hy : IsI k2 z2 y w) (l1 : k1 ≤ 1048576) (l2 : k2 ≤ 1048576) (hz : z2 < 0) (qn qd : Int) (hn : z1 / (-((Int.gcd z1 z2 : Nat) : Int)) = qn) (hd : z2 / (-((Int.gcd z1 z2 : Nat) : Int)) = qd) :
    Calls Tryz.prog 52 #[x, y] w (Ret w (IsT2 (IsQ (IsI k1 qn) (IsI k2 qd)) (IsV (.int .i64 0)))) := by
  obtain ⟨sg, hsg⟩ : ∃ s, z2.sign = s := ⟨_, rfl⟩
  have HSG := hid hsg
  have hs : sg = -1 := by rw [← hsg]; exact Int.sign_eq_neg_one_of_neg hz
  have HS0 := hid (show (sg == 0) = false by rw [hs]; decide)
  have HS1 := hid (show decide (sg < 0) = true by rw [hs]; decide)
  have HG := hid (show (-((Int.gcd z1 z2 : Nat) : Int)) ≠ 0 by intro h; have := ((Int.gcd_eq_zero_iff (a := z1) (b := z2)).1 (by omega)).2; omega)
  have HN := hid hn
  have HD := hid hd
  clear hz hn hd hsg hs
  obtain ⟨s1, a1, n1, c1, rfl, h1⟩ := hx
  have h1 : IsI _ _ _ w := ⟨_, _, _, _, rfl, h1⟩
  obtain ⟨s2, a2, n2, c2, rfl, h2⟩ := hy
  have h2 : IsI _ _ _ w := ⟨_, _, _, _, rfl, h2⟩
  obtain ⟨W, hW, S⟩ : ∃ W, W = ((w.alloc (.cells #[.bool s1, .slice a1 n1 c1] 29)).alloc (.cells #[.bool s2, .slice a2 n2 c2] 29)).alloc (.cells #[.bool false, .slice none 0 0, .bool false, .slice none 0 0] 31) ∧ Sto w W [((w.heap.size + 1 + 1, 1), IsI 0 0), ((w.heap.size + 1 + 1, 0), IsI 0 0), ((w.heap.size + 1, 0), IsI k2 z2), ((w.heap.size, 0), IsI k1 z1)] := ⟨_, rfl, ((((Sto.start w).new1 (w.heap.size) (by simp) s1 a1 n1 c1 29 (IsI k1 z1) (IsI.gstb _ _) (h1)).new1 (w.heap.size + 1) (by simp) s2 a2 n2 c2 29 (IsI k2 z2) (IsI.gstb _ _) (h2.ext ((Ext.refl _).alloc _))).new2 (w.heap.size + 1 + 1) (by simp) false false none none 0 0 0 0 31 (IsI 0 0) (IsI 0 0) (IsI.gstb _ _) (IsI.nil _ _) (IsI.gstb _ _) (IsI.nil _ _))⟩
  clear h1 h2
  go_enter Tryz.func52, Tryz.ntmps52
  go_upto_region 1 with (fail)
  rw [← hW]
  clear hW
  refine rgs 3 [some 7, some 8, some 9] [IsI k2 z2, IsV (.int .i64 sg), IsV (.bool false)] [] ?_ ?_
  · refine Rc (ldI S 2 (w.heap.size + 1) 0 (Od.lit 3) ld_Int) ?_
    refine Rc (cl1 (en Tryz.func33) (Od.lc (Φ := IsI k2 z2) 0 7) (fun x0 w' hE d0 => Calls.mono (RSign_f d0) fun _ _ h => h.int (HSG.out))) ?_
    refine Rc (bn (r := .bool false) (Od.loc 1 8) Od.con (hr := fun w => by have hx9 := HS0.out; go_simp)) ?_
    exact RgAll.nil
  intro v W1 e1 hΦ _
  replace S := S.mono e1
  have v2 : v 2 = .bool false := hΦ 2 (by decide)
  simp only [layL, Act.put, List.setIfInBounds_toArray, List.set_cons_zero, List.set_cons_succ, Nat.reduceAdd]
  rw [v2]
  clear v2 hΦ e1
  refine wpList_nil ?_
  go_upto_region 3 with (fail)
  have hl := hid S.lt; have hw := S.ext.size
  refine rgs 4 [some 11, some 12, some 13, some 6] [IsI k1 z1, IsI k2 z2, IsI (max k1 k2) (((Int.gcd z1 z2 : Nat) : Int)), IsBo W1 1] [3] ?_ ?_
  · refine Rc (ldI S 3 (w.heap.size) 0 (Od.lit 2) ld_Int) ?_
    refine Rc (ldI S 2 (w.heap.size + 1) 0 (Od.lit 3) ld_Int) ?_
    refine Rc (cl2 (en Tryz.func90) (Od.lc (Φ := IsI k1 z1) 0 11) (Od.lc (Φ := IsI k2 z2) 1 12) (fun x0 x1 w' hE d0 d1 => RGcd_f d0 d1 (by omega) (by omega))) ?_
    refine Rc (al al_Int) ?_
    exact RgAll.nil
  intro v W2 e1 hΦ _
  replace S := S.mono e1
  have h13 := hΦ 2 (by decide)
  obtain ⟨g6, v3, q2, b1, _⟩ := (hΦ 3 (by decide) : IsBo W1 1 (v 3) W2)
  replace S := S.addN 1 (ApartO.old hl.out q2) (Nat.le_trans hw q2) b1
  simp only [newF, List.cons_append, List.nil_append] at S
  simp only [layL, Act.put, List.setIfInBounds_toArray, List.set_cons_zero, List.set_cons_succ, Nat.reduceAdd]
  rw [v3]
  clear b1 hl hw v3 hΦ e1
  try simp only [List.drop_succ_cons, List.drop_zero]
  (with_reducible refine stL ?_ (by rfl)); intro KK hKK; refine stI S 0 (g6) 0 h13 st_Int (fun W3 S2 G2 => hKK _ _ ?_) rfl
  replace S := S2; clear S2 G2 hKK KK h13
  simp only [List.set_cons_zero] at S
  refine wpList_nil ?_
  go_upto_region 4 with (fail)
  refine rgs 3 [some 14, some 15, some 16] [IsI k2 z2, IsV (.int .i64 sg), IsV (.bool true)] [] ?_ ?_
  · refine Rc (ldI S 3 (w.heap.size + 1) 0 (Od.lit 3) ld_Int) ?_
    refine Rc (cl1 (en Tryz.func33) (Od.lc (Φ := IsI k2 z2) 0 14) (fun x0 w' hE d0 => Calls.mono (RSign_f d0) fun _ _ h => h.int (HSG.out))) ?_
    refine Rc (bn (r := .bool true) (Od.loc 1 15) Od.con (hr := fun w => by have hx9 := HS1.out; go_simp)) ?_
    exact RgAll.nil
  intro v W4 e1 hΦ _
  replace S := S.mono e1
  have v2 : v 2 = .bool true := hΦ 2 (by decide)
  simp only [layL, Act.put, List.setIfInBounds_toArray, List.set_cons_zero, List.set_cons_succ, Nat.reduceAdd]
  rw [v2]
  clear v2 hΦ e1
  refine wpList_nil ?_
  go_upto_region 5 with (fail)
  refine rgs 2 [some 17, some 18] [IsI (max k1 k2) (((Int.gcd z1 z2 : Nat) : Int)), IsI (max k1 k2) (-(((Int.gcd z1 z2 : Nat) : Int)))] [] ?_ ?_
  · refine Rc (ldI S 0 (g6) 0 (Od.lit 6) ld_Int) ?_
    refine Rc (cl1 (en Tryz.func43) (Od.lc (Φ := IsI (max k1 k2) (((Int.gcd z1 z2 : Nat) : Int))) 0 17) (fun x0 w' hE d0 => RNeg_f d0)) ?_
    exact RgAll.nil
  intro v W5 e1 hΦ _
  replace S := S.mono e1
  have h18 := hΦ 1 (by decide)
  simp only [layL, Act.put, List.setIfInBounds_toArray, List.set_cons_zero, List.set_cons_succ, Nat.reduceAdd]
  clear hΦ e1
  try simp only [List.drop_succ_cons, List.drop_zero]
  (with_reducible refine stL ?_ (by rfl)); intro KK hKK; refine stI S 0 (g6) 0 h18 st_Int (fun W6 S2 G2 => hKK _ _ ?_) rfl
  replace S := S2; clear S2 G2 hKK KK h18
  simp only [List.set_cons_zero] at S
  refine wpList_nil ?_
  go_upto_region 6 with (fail)
  refine rg 7 [some 19, some 20, some 21, some 22, some 23, some 24, some 25] [IsI k1 z1, IsI (max k1 k2) (-(((Int.gcd z1 z2 : Nat) : Int))), IsI k1 qn, IsI k2 z2, IsI (max k1 k2) (-(((Int.gcd z1 z2 : Nat) : Int))), IsI k2 qd, IsQ (IsI k1 qn) (IsI k2 qd)] [] 2 ?_ ?_
  · refine Rc (ldI S 4 (w.heap.size) 0 (Od.lit 2) ld_Int) ?_
    refine Rc (ldI S 0 (g6) 0 (Od.lit 6) ld_Int) ?_
    refine Rc (cl2 (en Tryz.func83) (Od.lc (Φ := IsI k1 z1) 0 19) (Od.lc (Φ := IsI (max k1 k2) (-(((Int.gcd z1 z2 : Nat) : Int)))) 1 20) (fun x0 x1 w' hE d0 d1 => Calls.mono (RDiv_f d0 d1 (by omega) (by omega) HG.out) fun _ _ h => h.eqz HN.out)) ?_
    refine Rc (ldI S 3 (w.heap.size + 1) 0 (Od.lit 3) ld_Int) ?_
    refine Rc (ldI S 0 (g6) 0 (Od.lit 6) ld_Int) ?_
    refine Rc (cl2 (en Tryz.func83) (Od.lc (Φ := IsI k2 z2) 3 22) (Od.lc (Φ := IsI (max k1 k2) (-(((Int.gcd z1 z2 : Nat) : Int)))) 4 23) (fun x0 x1 w' hE d0 d1 => Calls.mono (RDiv_f d0 d1 (by omega) (by omega) HG.out) fun _ _ h => h.eqz HD.out)) ?_
    refine Rc (bq (Od.loc 2 21) (Od.loc 5 24) bd_Rat) ?_
    exact RgAll.nil
  intro v W7 e1 hΦ _
  replace S := S.mono e1
  have h25 := hΦ 6 (by decide)
  simp only [layL, Act.put, List.setIfInBounds_toArray, List.set_cons_zero, List.set_cons_succ, Nat.reduceAdd]
  clear hΦ e1
  refine stA 7 (h := fun KK hKK => stQ S 2 1 (w.heap.size + 1 + 1) 0 h25 (IsI.gstb _ _) (IsI.gstb _ _) st_Rat (fun W8 S2 G2 => hKK _ _ ?_) rfl rfl)
  replace S := S2; clear S2 G2 hKK KK h25
  simp only [List.set_cons_zero, List.set_cons_succ] at S
  refine wpAny_ready (rs := [8]) (by kernel_rfl) (by simp) (AllReady.cons rfl (fun K hK => ?_) AllReady.nil); go_simp; refine hK _ _ ?_; clear hK K
  refine wpAny_done (by kernel_rfl) ?_ _
  go_wp2_with fail
  obtain ⟨s90x, a90x, n90x, c90x, b90x, h90x⟩ := S.at 2 (w.heap.size + 1 + 1) 0 (IsI k1 qn) rfl; have L90xa : World.cell? W8 ⟨w.heap.size + 1 + 1, 0, none⟩ = some (.bool s90x) := b90x.c0; have L90xb : World.cell? W8 ⟨w.heap.size + 1 + 1, 1, none⟩ = some (.slice a90x n90x c90x) := b90x.c1
  obtain ⟨s90y, a90y, n90y, c90y, b90y, h90y⟩ := S.at 1 (w.heap.size + 1 + 1) 1 (IsI k2 qd) rfl; have L90ya : World.cell? W8 ⟨w.heap.size + 1 + 1, 2, none⟩ = some (.bool s90y) := b90y.c0; have L90yb : World.cell? W8 ⟨w.heap.size + 1 + 1, 3, none⟩ = some (.slice a90y n90y c90y) := b90y.c1
  exact bodyPost_ret (v := .tuple #[.agg #[.bool s90x, .slice a90x n90x c90x, .bool s90y, .slice a90y n90y c90y], .int .i64 0]) (by simp [results, Tryz.results52, go_sem, L90xa, L90xb, L90ya, L90yb]) rfl (⟨_, rfl, S.ext, _, _, rfl, ⟨_, _, _, _, _, _, _, _, rfl, h90x, h90y⟩, rfl⟩)

theorem rqNew_f {k1 k2 : Nat} {z1 z2 : Int} {x y : Value} {w : World} (hx : IsI k1 z1 x w) (hy : IsI k2 z2 y w) (l1 : k1 ≤ 1048576) (l2 : k2 ≤ 1048576) (hz : z2 ≠ 0) :
    Calls Tryz.prog 52 #[x, y] w (Ret w (IsT2 (IsRat (max k1 k2) (Rat.divInt z1 z2)) (IsV (.int .i64 0)))) := by
  have key : Calls Tryz.prog 52 #[x, y] w (Ret w (IsT2 (IsQ (IsI k1 (Rat.divInt z1 z2).num) (IsI k2 ((Rat.divInt z1 z2).den : Int))) (IsV (.int .i64 0)))) := by
    rcases Int.lt_or_gt_of_ne hz with h | h
    · exact rqNewneg_c hx hy l1 l2 h _ _ (rat_num_neg z1 z2 h) (rat_den_neg z1 z2 h)
    · exact rqNewpos_c hx hy l1 l2 h _ _ (rat_num_pos z1 z2 h) (rat_den_pos z1 z2 h)
  exact Calls.mono key fun _ _ h => h.mono fun _ _ ⟨u, v, e, ⟨s, a, n, c, s', a', n', c', h1, h2, h3⟩, h4⟩ => ⟨u, v, e, ⟨s, a, n, c, s', a', n', c', h1, h2.mono (by omega), h3.mono (by omega)⟩, h4⟩

set_option maxRecDepth 100000 in
set_option maxHeartbeats 4000000 in
theorem rqover_f {k1 k2 : Nat} {z1 z2 : Int} {x y : Value} {w : World} (hx : IsI k1 z1 x w) (hy : IsI k2 z2 y w) (l1 : k1 ≤ 1048576) (l2 : k2 ≤ 1048576) (hz : z2 ≠ 0) :
    Calls Tryz.prog 70 #[x, y] w (Ret w (IsRat (max k1 k2) (Rat.divInt z1 z2))) := by
  have HZ := hid hz
  clear hz
  obtain ⟨s1, a1, n1, c1, rfl, h1⟩ := hx
  have h1 : IsI _ _ _ w := ⟨_, _, _, _, rfl, h1⟩
  obtain ⟨s2, a2, n2, c2, rfl, h2⟩ := hy
  have h2 : IsI _ _ _ w := ⟨_, _, _, _, rfl, h2⟩
  obtain ⟨W, hW, S⟩ : ∃ W, W = ((w.alloc (.cells #[.bool s1, .slice a1 n1 c1] 29)).alloc (.cells #[.bool s2, .slice a2 n2 c2] 29)).alloc (.cells #[.bool false, .slice none 0 0, .bool false, .slice none 0 0] 31) ∧ Sto w W [((w.heap.size + 1 + 1, 1), IsI 0 0), ((w.heap.size + 1 + 1, 0), IsI 0 0), ((w.heap.size + 1, 0), IsI k2 z2), ((w.heap.size, 0), IsI k1 z1)] := ⟨_, rfl, ((((Sto.start w).new1 (w.heap.size) (by simp) s1 a1 n1 c1 29 (IsI k1 z1) (IsI.gstb _ _) (h1)).new1 (w.heap.size + 1) (by simp) s2 a2 n2 c2 29 (IsI k2 z2) (IsI.gstb _ _) (h2.ext ((Ext.refl _).alloc _))).new2 (w.heap.size + 1 + 1) (by simp) false false none none 0 0 0 0 31 (IsI 0 0) (IsI 0 0) (IsI.gstb _ _) (IsI.nil _ _) (IsI.gstb _ _) (IsI.nil _ _))⟩
  clear h1 h2
  go_enter Tryz.func70, Tryz.ntmps70
  go_upto_region 1 with (fail)
  rw [← hW]
  clear hW
  have hl := hid S.lt; have hw := S.ext.size
  refine rgs 7 [some 8, some 9, some 10, some 7, some 11, some 12, some 5] [IsI k1 z1, IsI k2 z2, IsT2 (IsQ (IsI (max k1 k2) ((Rat.divInt z1 z2).num)) (IsI (max k1 k2) (((Rat.divInt z1 z2).den : Int)))) (IsV (.int .i64 0)), IsT2 (IsQ (IsI (max k1 k2) ((Rat.divInt z1 z2).num)) (IsI (max k1 k2) (((Rat.divInt z1 z2).den : Int)))) (IsV (.int .i64 0)), IsQ (IsI (max k1 k2) ((Rat.divInt z1 z2).num)) (IsI (max k1 k2) (((Rat.divInt z1 z2).den : Int))), IsV (.int .i64 0), IsBo W 2] [6] ?_ ?_
  · refine Rc (ldI S 3 (w.heap.size) 0 (Od.lit 2) ld_Int) ?_
    refine Rc (ldI S 2 (w.heap.size + 1) 0 (Od.lit 3) ld_Int) ?_
    refine Rc (cl2 (en Tryz.func52) (Od.lc (Φ := IsI k1 z1) 0 8) (Od.lc (Φ := IsI k2 z2) 1 9) (fun x0 x1 w' hE d0 d1 => rqNew_f d0 d1 (by omega) (by omega) HZ.out)) ?_
    refine Rc (mv (Od.lc 2 10)) ?_
    refine Rc (ex (Od.loc 3 7) t20) ?_
    refine Rc (ex (Od.loc 3 7) t21) ?_
    refine Rc (al al_Rat) ?_
    exact RgAll.nil
  intro v W1 e1 hΦ _
  replace S := S.mono e1
  have h11 := hΦ 4 (by decide)
  have v5 : v 5 = .int .i64 0 := hΦ 5 (by decide)
  obtain ⟨g5, v6, q2, b1, _⟩ := (hΦ 6 (by decide) : IsBo W 2 (v 6) W1)
  replace S := S.addN 2 (ApartO.old hl.out q2) (Nat.le_trans hw q2) b1
  simp only [newF, List.cons_append, List.nil_append] at S
  simp only [layL, Act.put, List.setIfInBounds_toArray, List.set_cons_zero, List.set_cons_succ, Nat.reduceAdd]
  rw [v5, v6]
  clear b1 hl hw v5 v6 hΦ e1
  try simp only [List.drop_succ_cons, List.drop_zero]
  (with_reducible refine stL ?_ (by rfl)); intro KK hKK; refine stQ S 1 0 (g5) 0 h11 (IsI.gstb _ _) (IsI.gstb _ _) st_Rat (fun W2 S2 G2 => hKK _ _ ?_) rfl rfl
  replace S := S2; clear S2 G2 hKK KK h11
  simp only [List.set_cons_zero, List.set_cons_succ] at S
  refine wpList_step fun K hK => ?_; go_simp; refine hK _ _ ?_; clear hK K
  refine wpList_nil ?_
  go_upto_region 2 with (fail)
  refine rgs 1 [some 13] [IsQ (IsI (max k1 k2) ((Rat.divInt z1 z2).num)) (IsI (max k1 k2) (((Rat.divInt z1 z2).den : Int)))] [] ?_ ?_
  · refine Rc (ldQ S 1 0 (g5) 0 (Od.lit 5) ld_Rat rfl rfl) ?_
    exact RgAll.nil
  intro v W3 e1 hΦ _
  replace S := S.mono e1
  have h13 := hΦ 0 (by decide)
  simp only [layL, Act.put, List.setIfInBounds_toArray, List.set_cons_zero, List.set_cons_succ]
  clear hΦ e1
  try simp only [List.drop_succ_cons, List.drop_zero]
  (with_reducible refine stL ?_ (by rfl)); intro KK hKK; refine stQ S 3 2 (w.heap.size + 1 + 1) 0 h13 (IsI.gstb _ _) (IsI.gstb _ _) st_Rat (fun W4 S2 G2 => hKK _ _ ?_) rfl rfl
  replace S := S2; clear S2 G2 hKK KK h13
  simp only [List.set_cons_zero, List.set_cons_succ] at S
  refine wpList_nil ?_
  go_wp2_with fail
  obtain ⟨s90x, a90x, n90x, c90x, b90x, h90x⟩ := S.at 3 (w.heap.size + 1 + 1) 0 (IsI (max k1 k2) ((Rat.divInt z1 z2).num)) rfl; have L90xa : World.cell? W4 ⟨w.heap.size + 1 + 1, 0, none⟩ = some (.bool s90x) := b90x.c0; have L90xb : World.cell? W4 ⟨w.heap.size + 1 + 1, 1, none⟩ = some (.slice a90x n90x c90x) := b90x.c1
  obtain ⟨s90y, a90y, n90y, c90y, b90y, h90y⟩ := S.at 2 (w.heap.size + 1 + 1) 1 (IsI (max k1 k2) (((Rat.divInt z1 z2).den : Int))) rfl; have L90ya : World.cell? W4 ⟨w.heap.size + 1 + 1, 2, none⟩ = some (.bool s90y) := b90y.c0; have L90yb : World.cell? W4 ⟨w.heap.size + 1 + 1, 3, none⟩ = some (.slice a90y n90y c90y) := b90y.c1
  exact bodyPost_ret (v := .agg #[.bool s90x, .slice a90x n90x c90x, .bool s90y, .slice a90y n90y c90y]) (by simp [results, Tryz.results70, go_sem, L90xa, L90xb, L90ya, L90yb]) rfl (⟨_, rfl, S.ext, ⟨_, _, _, _, _, _, _, _, rfl, h90x, h90y⟩⟩)

set_option maxRecDepth 100000 in
set_option maxHeartbeats 4000000 in
theorem rqAdd_f {k1 k2 : Nat} {p q : Rat} {x y : Value} {w : World} (hx : IsRat k1 p x w) (hy : IsRat k2 q y w) (l1 : k1 ≤ 131072) (l2 : k2 ≤ 131072) : Calls Tryz.prog 53 #[x, y] w (Ret w (IsRat (k1 + k2 + 1) (p + q))) := by
  obtain ⟨r, hr⟩ : ∃ r, p + q = r := ⟨_, rfl⟩
  rw [hr]
  have HQ := hid (show Rat.divInt (p.num * (q.den : Int) + q.num * (p.den : Int)) ((p.den : Int) * (q.den : Int)) = r by rw [← hr]; exact rat_add p q)
  have HK := hid (show max (max (k1 + k2) (k2 + k1) + 1) (k1 + k2) ≤ k1 + k2 + 1 by omega)
  clear hr
  have HP := hid (show (p.den : Int) * (q.den : Int) ≠ 0 from Int.ne_of_gt (Int.mul_pos (by have := p.den_pos; omega) (by have := q.den_pos; omega)))
  obtain ⟨s1x, a1x, n1x, c1x, s1y, a1y, n1y, c1y, rfl, h1x, h1y⟩ := hx
  obtain ⟨s2x, a2x, n2x, c2x, s2y, a2y, n2y, c2y, rfl, h2x, h2y⟩ := hy
  obtain ⟨W, hW, S⟩ : ∃ W, W = ((w.alloc (.cells #[.bool s1x, .slice a1x n1x c1x, .bool s1y, .slice a1y n1y c1y] 31)).alloc (.cells #[.bool s2x, .slice a2x n2x c2x, .bool s2y, .slice a2y n2y c2y] 31)).alloc (.cells #[.bool false, .slice none 0 0, .bool false, .slice none 0 0] 31) ∧ Sto w W [((w.heap.size + 1 + 1, 1), IsI 0 0), ((w.heap.size + 1 + 1, 0), IsI 0 0), ((w.heap.size + 1, 1), IsI k2 ((q.den : Int))), ((w.heap.size + 1, 0), IsI k2 q.num), ((w.heap.size, 1), IsI k1 ((p.den : Int))), ((w.heap.size, 0), IsI k1 p.num)] := ⟨_, rfl, ((((Sto.start w).new2 (w.heap.size) (by simp) s1x s1y a1x a1y n1x c1x n1y c1y 31 (IsI k1 p.num) (IsI k1 ((p.den : Int))) (IsI.gstb _ _) (h1x) (IsI.gstb _ _) (h1y)).new2 (w.heap.size + 1) (by simp) s2x s2y a2x a2y n2x c2x n2y c2y 31 (IsI k2 q.num) (IsI k2 ((q.den : Int))) (IsI.gstb _ _) (h2x.ext ((Ext.refl _).alloc _)) (IsI.gstb _ _) (h2y.ext ((Ext.refl _).alloc _))).new2 (w.heap.size + 1 + 1) (by simp) false false none none 0 0 0 0 31 (IsI 0 0) (IsI 0 0) (IsI.gstb _ _) (IsI.nil _ _) (IsI.gstb _ _) (IsI.nil _ _))⟩
  clear h1x h1y h2x h2y
  go_enter Tryz.func53, Tryz.ntmps53
  go_upto_region 1 with (fail)
  rw [← hW]
  clear hW
  refine rg 17 [some 5, some 6, some 7, some 8, some 9, some 10, some 11, some 12, some 13, some 14, some 15, some 16, some 17, some 18, some 19, some 20, some 21] [IsV (.pointer (some ⟨w.heap.size, 0, none⟩)), IsI k1 p.num, IsV (.pointer (some ⟨w.heap.size + 1, 2, none⟩)), IsI k2 ((q.den : Int)), IsI (k1 + k2) (p.num * (q.den : Int)), IsV (.pointer (some ⟨w.heap.size + 1, 0, none⟩)), IsI k2 q.num, IsV (.pointer (some ⟨w.heap.size, 2, none⟩)), IsI k1 ((p.den : Int)), IsI (k2 + k1) (q.num * (p.den : Int)), IsI (max (k1 + k2) (k2 + k1) + 1) (p.num * (q.den : Int) + q.num * (p.den : Int)), IsV (.pointer (some ⟨w.heap.size, 2, none⟩)), IsI k1 ((p.den : Int)), IsV (.pointer (some ⟨w.heap.size + 1, 2, none⟩)), IsI k2 ((q.den : Int)), IsI (k1 + k2) ((p.den : Int) * (q.den : Int)), IsQ (IsI (k1 + k2 + 1) r.num) (IsI (k1 + k2 + 1) ((r.den : Int)))] [] 1 ?_ ?_
  · refine Rc (fa (fa_Rat0 (w.heap.size) 0) (Od.lit 2)) ?_
    refine Rc (ldI S 5 (w.heap.size) 0 (Od.lc 0 5) ld_Int) ?_
    refine Rc (fa (fa_Rat1 (w.heap.size + 1) 0) (Od.lit 3)) ?_
    refine Rc (ldI S 2 (w.heap.size + 1) 1 (Od.lc 2 7) ld_Int) ?_
    refine Rc (cl2 (en Tryz.func84) (Od.lc (Φ := IsI k1 p.num) 1 6) (Od.lc (Φ := IsI k2 ((q.den : Int))) 3 8) (fun x0 x1 w' hE d0 d1 => RMul_f d0 d1 (by omega) (by omega))) ?_
    refine Rc (fa (fa_Rat0 (w.heap.size + 1) 0) (Od.lit 3)) ?_
    refine Rc (ldI S 3 (w.heap.size + 1) 0 (Od.lc 5 10) ld_Int) ?_
    refine Rc (fa (fa_Rat1 (w.heap.size) 0) (Od.lit 2)) ?_
    refine Rc (ldI S 4 (w.heap.size) 1 (Od.lc 7 12) ld_Int) ?_
    refine Rc (cl2 (en Tryz.func84) (Od.lc (Φ := IsI k2 q.num) 6 11) (Od.lc (Φ := IsI k1 ((p.den : Int))) 8 13) (fun x0 x1 w' hE d0 d1 => RMul_f d0 d1 (by omega) (by omega))) ?_
    refine Rc (cl2 (en Tryz.func42) (Od.lc (Φ := IsI (k1 + k2) (p.num * (q.den : Int))) 4 9) (Od.lc (Φ := IsI (k2 + k1) (q.num * (p.den : Int))) 9 14) (fun x0 x1 w' hE d0 d1 => RAdd_f d0 d1 (by omega) (by omega))) ?_
    refine Rc (fa (fa_Rat1 (w.heap.size) 0) (Od.lit 2)) ?_
    refine Rc (ldI S 4 (w.heap.size) 1 (Od.lc 11 16) ld_Int) ?_
    refine Rc (fa (fa_Rat1 (w.heap.size + 1) 0) (Od.lit 3)) ?_
    refine Rc (ldI S 2 (w.heap.size + 1) 1 (Od.lc 13 18) ld_Int) ?_
    refine Rc (cl2 (en Tryz.func84) (Od.lc (Φ := IsI k1 ((p.den : Int))) 12 17) (Od.lc (Φ := IsI k2 ((q.den : Int))) 14 19) (fun x0 x1 w' hE d0 d1 => RMul_f d0 d1 (by omega) (by omega))) ?_
    refine Rc (cl2 (en Tryz.func70) (Od.lc (Φ := IsI (max (k1 + k2) (k2 + k1) + 1) (p.num * (q.den : Int) + q.num * (p.den : Int))) 10 15) (Od.lc (Φ := IsI (k1 + k2) ((p.den : Int) * (q.den : Int))) 15 20) (fun x0 x1 w' hE d0 d1 => Calls.mono (rqover_f d0 d1 (by omega) (by omega) HP.out) fun _ _ h => h.ratz HQ.out HK.out)) ?_
    exact RgAll.nil
  intro v W1 e1 hΦ _
  replace S := S.mono e1
  have h21 := hΦ 16 (by decide)
  simp only [layL, Act.put, List.setIfInBounds_toArray, List.set_cons_zero, List.set_cons_succ, Nat.reduceAdd]
  clear hΦ e1
  refine stA 17 (h := fun KK hKK => stQ S 1 0 (w.heap.size + 1 + 1) 0 h21 (IsI.gstb _ _) (IsI.gstb _ _) st_Rat (fun W2 S2 G2 => hKK _ _ ?_) rfl rfl)
  replace S := S2; clear S2 G2 hKK KK h21
  simp only [List.set_cons_zero, List.set_cons_succ] at S
  refine wpAny_done (by kernel_rfl) ?_ _
  go_wp2_with fail
  obtain ⟨s90x, a90x, n90x, c90x, b90x, h90x⟩ := S.at 1 (w.heap.size + 1 + 1) 0 (IsI (k1 + k2 + 1) r.num) rfl; have L90xa : World.cell? W2 ⟨w.heap.size + 1 + 1, 0, none⟩ = some (.bool s90x) := b90x.c0; have L90xb : World.cell? W2 ⟨w.heap.size + 1 + 1, 1, none⟩ = some (.slice a90x n90x c90x) := b90x.c1
  obtain ⟨s90y, a90y, n90y, c90y, b90y, h90y⟩ := S.at 0 (w.heap.size + 1 + 1) 1 (IsI (k1 + k2 + 1) ((r.den : Int))) rfl; have L90ya : World.cell? W2 ⟨w.heap.size + 1 + 1, 2, none⟩ = some (.bool s90y) := b90y.c0; have L90yb : World.cell? W2 ⟨w.heap.size + 1 + 1, 3, none⟩ = some (.slice a90y n90y c90y) := b90y.c1
  exact bodyPost_ret (v := .agg #[.bool s90x, .slice a90x n90x c90x, .bool s90y, .slice a90y n90y c90y]) (by simp [results, Tryz.results53, go_sem, L90xa, L90xb, L90ya, L90yb]) rfl (⟨_, rfl, S.ext, ⟨_, _, _, _, _, _, _, _, rfl, h90x, h90y⟩⟩)

set_option maxRecDepth 100000 in
set_option maxHeartbeats 4000000 in
theorem rqMul_f {k1 k2 : Nat} {p q : Rat} {x y : Value} {w : World} (hx : IsRat k1 p x w) (hy : IsRat k2 q y w) (l1 : k1 ≤ 131072) (l2 : k2 ≤ 131072) : Calls Tryz.prog 26 #[x, y] w (Ret w (IsRat (k1 + k2) (p * q))) := by
  obtain ⟨r, hr⟩ : ∃ r, p * q = r := ⟨_, rfl⟩
  rw [hr]
  have HQ := hid (show Rat.divInt (p.num * q.num) ((p.den : Int) * (q.den : Int)) = r by rw [← hr]; exact rat_mul p q)
  have HK := hid (show max (k1 + k2) (k1 + k2) ≤ k1 + k2 by omega)
  clear hr
  have HP := hid (show (p.den : Int) * (q.den : Int) ≠ 0 from Int.ne_of_gt (Int.mul_pos (by have := p.den_pos; omega) (by have := q.den_pos; omega)))
  obtain ⟨s1x, a1x, n1x, c1x, s1y, a1y, n1y, c1y, rfl, h1x, h1y⟩ := hx
  obtain ⟨s2x, a2x, n2x, c2x, s2y, a2y, n2y, c2y, rfl, h2x, h2y⟩ := hy
  obtain ⟨W, hW, S⟩ : ∃ W, W = ((w.alloc (.cells #[.bool s1x, .slice a1x n1x c1x, .bool s1y, .slice a1y n1y c1y] 31)).alloc (.cells #[.bool s2x, .slice a2x n2x c2x, .bool s2y, .slice a2y n2y c2y] 31)).alloc (.cells #[.bool false, .slice none 0 0, .bool false, .slice none 0 0] 31) ∧ Sto w W [((w.heap.size + 1 + 1, 1), IsI 0 0), ((w.heap.size + 1 + 1, 0), IsI 0 0), ((w.heap.size + 1, 1), IsI k2 ((q.den : Int))), ((w.heap.size + 1, 0), IsI k2 q.num), ((w.heap.size, 1), IsI k1 ((p.den : Int))), ((w.heap.size, 0), IsI k1 p.num)] := ⟨_, rfl, ((((Sto.start w).new2 (w.heap.size) (by simp) s1x s1y a1x a1y n1x c1x n1y c1y 31 (IsI k1 p.num) (IsI k1 ((p.den : Int))) (IsI.gstb _ _) (h1x) (IsI.gstb _ _) (h1y)).new2 (w.heap.size + 1) (by simp) s2x s2y a2x a2y n2x c2x n2y c2y 31 (IsI k2 q.num) (IsI k2 ((q.den : Int))) (IsI.gstb _ _) (h2x.ext ((Ext.refl _).alloc _)) (IsI.gstb _ _) (h2y.ext ((Ext.refl _).alloc _))).new2 (w.heap.size + 1 + 1) (by simp) false false none none 0 0 0 0 31 (IsI 0 0) (IsI 0 0) (IsI.gstb _ _) (IsI.nil _ _) (IsI.gstb _ _) (IsI.nil _ _))⟩
  clear h1x h1y h2x h2y
  go_enter Tryz.func26, Tryz.ntmps26
  go_upto_region 1 with (fail)
  rw [← hW]
  clear hW
  refine rg 11 [some 5, some 6, some 7, some 8, some 9, some 10, some 11, some 12, some 13, some 14, some 15] [IsV (.pointer (some ⟨w.heap.size, 0, none⟩)), IsI k1 p.num, IsV (.pointer (some ⟨w.heap.size + 1, 0, none⟩)), IsI k2 q.num, IsI (k1 + k2) (p.num * q.num), IsV (.pointer (some ⟨w.heap.size, 2, none⟩)), IsI k1 ((p.den : Int)), IsV (.pointer (some ⟨w.heap.size + 1, 2, none⟩)), IsI k2 ((q.den : Int)), IsI (k1 + k2) ((p.den : Int) * (q.den : Int)), IsQ (IsI (k1 + k2) r.num) (IsI (k1 + k2) ((r.den : Int)))] [] 1 ?_ ?_
  · refine Rc (fa (fa_Rat0 (w.heap.size) 0) (Od.lit 2)) ?_
    refine Rc (ldI S 5 (w.heap.size) 0 (Od.lc 0 5) ld_Int) ?_
    refine Rc (fa (fa_Rat0 (w.heap.size + 1) 0) (Od.lit 3)) ?_
    refine Rc (ldI S 3 (w.heap.size + 1) 0 (Od.lc 2 7) ld_Int) ?_
    refine Rc (cl2 (en Tryz.func84) (Od.lc (Φ := IsI k1 p.num) 1 6) (Od.lc (Φ := IsI k2 q.num) 3 8) (fun x0 x1 w' hE d0 d1 => RMul_f d0 d1 (by omega) (by omega))) ?_
    refine Rc (fa (fa_Rat1 (w.heap.size) 0) (Od.lit 2)) ?_
    refine Rc (ldI S 4 (w.heap.size) 1 (Od.lc 5 10) ld_Int) ?_
    refine Rc (fa (fa_Rat1 (w.heap.size + 1) 0) (Od.lit 3)) ?_
    refine Rc (ldI S 2 (w.heap.size + 1) 1 (Od.lc 7 12) ld_Int) ?_
    refine Rc (cl2 (en Tryz.func84) (Od.lc (Φ := IsI k1 ((p.den : Int))) 6 11) (Od.lc (Φ := IsI k2 ((q.den : Int))) 8 13) (fun x0 x1 w' hE d0 d1 => RMul_f d0 d1 (by omega) (by omega))) ?_
    refine Rc (cl2 (en Tryz.func70) (Od.lc (Φ := IsI (k1 + k2) (p.num * q.num)) 4 9) (Od.lc (Φ := IsI (k1 + k2) ((p.den : Int) * (q.den : Int))) 9 14) (fun x0 x1 w' hE d0 d1 => Calls.mono (rqover_f d0 d1 (by omega) (by omega) HP.out) fun _ _ h => h.ratz HQ.out HK.out)) ?_
    exact RgAll.nil
  intro v W1 e1 hΦ _
  replace S := S.mono e1
  have h15 := hΦ 10 (by decide)
  simp only [layL, Act.put, List.setIfInBounds_toArray, List.set_cons_zero, List.set_cons_succ, Nat.reduceAdd]
  clear hΦ e1
  refine stA 11 (h := fun KK hKK => stQ S 1 0 (w.heap.size + 1 + 1) 0 h15 (IsI.gstb _ _) (IsI.gstb _ _) st_Rat (fun W2 S2 G2 => hKK _ _ ?_) rfl rfl)
  replace S := S2; clear S2 G2 hKK KK h15
  simp only [List.set_cons_zero, List.set_cons_succ] at S
  refine wpAny_done (by kernel_rfl) ?_ _
  go_wp2_with fail
  obtain ⟨s90x, a90x, n90x, c90x, b90x, h90x⟩ := S.at 1 (w.heap.size + 1 + 1) 0 (IsI (k1 + k2) r.num) rfl; have L90xa : World.cell? W2 ⟨w.heap.size + 1 + 1, 0, none⟩ = some (.bool s90x) := b90x.c0; have L90xb : World.cell? W2 ⟨w.heap.size + 1 + 1, 1, none⟩ = some (.slice a90x n90x c90x) := b90x.c1
  obtain ⟨s90y, a90y, n90y, c90y, b90y, h90y⟩ := S.at 0 (w.heap.size + 1 + 1) 1 (IsI (k1 + k2) ((r.den : Int))) rfl; have L90ya : World.cell? W2 ⟨w.heap.size + 1 + 1, 2, none⟩ = some (.bool s90y) := b90y.c0; have L90yb : World.cell? W2 ⟨w.heap.size + 1 + 1, 3, none⟩ = some (.slice a90y n90y c90y) := b90y.c1
  exact bodyPost_ret (v := .agg #[.bool s90x, .slice a90x n90x c90x, .bool s90y, .slice a90y n90y c90y]) (by simp [results, Tryz.results26, go_sem, L90xa, L90xb, L90ya, L90yb]) rfl (⟨_, rfl, S.ext, ⟨_, _, _, _, _, _, _, _, rfl, h90x, h90y⟩⟩)

set_option maxRecDepth 100000 in
set_option maxHeartbeats 4000000 in
theorem rqneg_c {k1 : Nat} {p : Rat} {x : Value} {w : World} (hx : IsRat k1 p x w) : Calls Tryz.prog 34 #[x] w (Ret w (IsQ (IsI k1 (-p.num)) (IsI k1 (p.den : Int)))) := by
  obtain ⟨s1x, a1x, n1x, c1x, s1y, a1y, n1y, c1y, rfl, h1x, h1y⟩ := hx
  obtain ⟨W, hW, S⟩ : ∃ W, W = (w.alloc (.cells #[.bool s1x, .slice a1x n1x c1x, .bool s1y, .slice a1y n1y c1y] 31)).alloc (.cells #[.bool false, .slice none 0 0, .bool false, .slice none 0 0] 31) ∧ Sto w W [((w.heap.size + 1, 1), IsI 0 0), ((w.heap.size + 1, 0), IsI 0 0), ((w.heap.size, 1), IsI k1 ((p.den : Int))), ((w.heap.size, 0), IsI k1 p.num)] := ⟨_, rfl, (((Sto.start w).new2 (w.heap.size) (by simp) s1x s1y a1x a1y n1x c1x n1y c1y 31 (IsI k1 p.num) (IsI k1 ((p.den : Int))) (IsI.gstb _ _) (h1x) (IsI.gstb _ _) (h1y)).new2 (w.heap.size + 1) (by simp) false false none none 0 0 0 0 31 (IsI 0 0) (IsI 0 0) (IsI.gstb _ _) (IsI.nil _ _) (IsI.gstb _ _) (IsI.nil _ _))⟩
  clear h1x h1y
  go_enter Tryz.func34, Tryz.ntmps34
  go_upto_region 1 with (fail)
  rw [← hW]
  clear hW
  refine rg 6 [some 3, some 4, some 5, some 6, some 7, some 8] [IsV (.pointer (some ⟨w.heap.size, 0, none⟩)), IsI k1 p.num, IsI k1 (-p.num), IsV (.pointer (some ⟨w.heap.size, 2, none⟩)), IsI k1 ((p.den : Int)), IsQ (IsI k1 (-p.num)) (IsI k1 ((p.den : Int)))] [] 1 ?_ ?_
  · refine Rc (fa (fa_Rat0 (w.heap.size) 0) (Od.lit 1)) ?_
    refine Rc (ldI S 3 (w.heap.size) 0 (Od.lc 0 3) ld_Int) ?_
    refine Rc (cl1 (en Tryz.func43) (Od.lc (Φ := IsI k1 p.num) 1 4) (fun x0 w' hE d0 => RNeg_f d0)) ?_
    refine Rc (fa (fa_Rat1 (w.heap.size) 0) (Od.lit 1)) ?_
    refine Rc (ldI S 2 (w.heap.size) 1 (Od.lc 3 6) ld_Int) ?_
    refine Rc (bq (Od.loc 2 5) (Od.loc 4 7) bd_Rat) ?_
    exact RgAll.nil
  intro v W1 e1 hΦ _
  replace S := S.mono e1
  have h8 := hΦ 5 (by decide)
  simp only [layL, Act.put, List.setIfInBounds_toArray, List.set_cons_zero, List.set_cons_succ, Nat.reduceAdd]
  clear hΦ e1
  refine stA 6 (h := fun KK hKK => stQ S 1 0 (w.heap.size + 1) 0 h8 (IsI.gstb _ _) (IsI.gstb _ _) st_Rat (fun W2 S2 G2 => hKK _ _ ?_) rfl rfl)
  replace S := S2; clear S2 G2 hKK KK h8
  simp only [List.set_cons_zero, List.set_cons_succ] at S
  refine wpAny_done (by kernel_rfl) ?_ _
  go_wp2_with fail
  obtain ⟨s90x, a90x, n90x, c90x, b90x, h90x⟩ := S.at 1 (w.heap.size + 1) 0 (IsI k1 (-p.num)) rfl; have L90xa : World.cell? W2 ⟨w.heap.size + 1, 0, none⟩ = some (.bool s90x) := b90x.c0; have L90xb : World.cell? W2 ⟨w.heap.size + 1, 1, none⟩ = some (.slice a90x n90x c90x) := b90x.c1
  obtain ⟨s90y, a90y, n90y, c90y, b90y, h90y⟩ := S.at 0 (w.heap.size + 1) 1 (IsI k1 ((p.den : Int))) rfl; have L90ya : World.cell? W2 ⟨w.heap.size + 1, 2, none⟩ = some (.bool s90y) := b90y.c0; have L90yb : World.cell? W2 ⟨w.heap.size + 1, 3, none⟩ = some (.slice a90y n90y c90y) := b90y.c1
  exact bodyPost_ret (v := .agg #[.bool s90x, .slice a90x n90x c90x, .bool s90y, .slice a90y n90y c90y]) (by simp [results, Tryz.results34, go_sem, L90xa, L90xb, L90ya, L90yb]) rfl (⟨_, rfl, S.ext, ⟨_, _, _, _, _, _, _, _, rfl, h90x, h90y⟩⟩)
theorem rqneg_f {k1 : Nat} {p : Rat} {x : Value} {w : World} (hx : IsRat k1 p x w) : Calls Tryz.prog 34 #[x] w (Ret w (IsRat k1 (-p))) := rqneg_c hx

set_option maxRecDepth 100000 in
set_option maxHeartbeats 4000000 in
theorem rqSub_f {k1 k2 : Nat} {p q : Rat} {x y : Value} {w : World} (hx : IsRat k1 p x w) (hy : IsRat k2 q y w) (l1 : k1 ≤ 131072) (l2 : k2 ≤ 131072) : Calls Tryz.prog 54 #[x, y] w (Ret w (IsRat (k1 + k2 + 1) (p - q))) := by
  rw [Rat.sub_eq_add_neg]
  obtain ⟨s1x, a1x, n1x, c1x, s1y, a1y, n1y, c1y, rfl, h1x, h1y⟩ := hx
  obtain ⟨s2x, a2x, n2x, c2x, s2y, a2y, n2y, c2y, rfl, h2x, h2y⟩ := hy
  obtain ⟨W, hW, S⟩ : ∃ W, W = ((w.alloc (.cells #[.bool s1x, .slice a1x n1x c1x, .bool s1y, .slice a1y n1y c1y] 31)).alloc (.cells #[.bool s2x, .slice a2x n2x c2x, .bool s2y, .slice a2y n2y c2y] 31)).alloc (.cells #[.bool false, .slice none 0 0, .bool false, .slice none 0 0] 31) ∧ Sto w W [((w.heap.size + 1 + 1, 1), IsI 0 0), ((w.heap.size + 1 + 1, 0), IsI 0 0), ((w.heap.size + 1, 1), IsI k2 ((q.den : Int))), ((w.heap.size + 1, 0), IsI k2 q.num), ((w.heap.size, 1), IsI k1 ((p.den : Int))), ((w.heap.size, 0), IsI k1 p.num)] := ⟨_, rfl, ((((Sto.start w).new2 (w.heap.size) (by simp) s1x s1y a1x a1y n1x c1x n1y c1y 31 (IsI k1 p.num) (IsI k1 ((p.den : Int))) (IsI.gstb _ _) (h1x) (IsI.gstb _ _) (h1y)).new2 (w.heap.size + 1) (by simp) s2x s2y a2x a2y n2x c2x n2y c2y 31 (IsI k2 q.num) (IsI k2 ((q.den : Int))) (IsI.gstb _ _) (h2x.ext ((Ext.refl _).alloc _)) (IsI.gstb _ _) (h2y.ext ((Ext.refl _).alloc _))).new2 (w.heap.size + 1 + 1) (by simp) false false none none 0 0 0 0 31 (IsI 0 0) (IsI 0 0) (IsI.gstb _ _) (IsI.nil _ _) (IsI.gstb _ _) (IsI.nil _ _))⟩
  clear h1x h1y h2x h2y
  go_enter Tryz.func54, Tryz.ntmps54
  go_upto_region 1 with (fail)
  rw [← hW]
  clear hW
  refine rg 4 [some 5, some 6, some 7, some 8] [IsQ (IsI k1 p.num) (IsI k1 ((p.den : Int))), IsQ (IsI k2 q.num) (IsI k2 ((q.den : Int))), IsQ (IsI k2 ((-q).num)) (IsI k2 (((-q).den : Int))), IsQ (IsI (k1 + k2 + 1) ((p + -q).num)) (IsI (k1 + k2 + 1) (((p + -q).den : Int)))] [] 1 ?_ ?_
  · refine Rc (ldQ S 5 4 (w.heap.size) 0 (Od.lit 2) ld_Rat rfl rfl) ?_
    refine Rc (ldQ S 3 2 (w.heap.size + 1) 0 (Od.lit 3) ld_Rat rfl rfl) ?_
    refine Rc (cl1 (en Tryz.func34) (Od.lc (Φ := IsQ (IsI k2 q.num) (IsI k2 ((q.den : Int)))) 1 6) (fun x0 w' hE d0 => rqneg_f d0)) ?_
    refine Rc (cl2 (en Tryz.func53) (Od.lc (Φ := IsQ (IsI k1 p.num) (IsI k1 ((p.den : Int)))) 0 5) (Od.lc (Φ := IsQ (IsI k2 ((-q).num)) (IsI k2 (((-q).den : Int)))) 2 7) (fun x0 x1 w' hE d0 d1 => rqAdd_f d0 d1 (by omega) (by omega))) ?_
    exact RgAll.nil
  intro v W1 e1 hΦ _
  replace S := S.mono e1
  have h8 := hΦ 3 (by decide)
  simp only [layL, Act.put, List.setIfInBounds_toArray, List.set_cons_zero, List.set_cons_succ, Nat.reduceAdd]
  clear hΦ e1
  refine stA 4 (h := fun KK hKK => stQ S 1 0 (w.heap.size + 1 + 1) 0 h8 (IsI.gstb _ _) (IsI.gstb _ _) st_Rat (fun W2 S2 G2 => hKK _ _ ?_) rfl rfl)
  replace S := S2; clear S2 G2 hKK KK h8
  simp only [List.set_cons_zero, List.set_cons_succ] at S
  refine wpAny_done (by kernel_rfl) ?_ _
  go_wp2_with fail
  obtain ⟨s90x, a90x, n90x, c90x, b90x, h90x⟩ := S.at 1 (w.heap.size + 1 + 1) 0 (IsI (k1 + k2 + 1) ((p + -q).num)) rfl; have L90xa : World.cell? W2 ⟨w.heap.size + 1 + 1, 0, none⟩ = some (.bool s90x) := b90x.c0; have L90xb : World.cell? W2 ⟨w.heap.size + 1 + 1, 1, none⟩ = some (.slice a90x n90x c90x) := b90x.c1
  obtain ⟨s90y, a90y, n90y, c90y, b90y, h90y⟩ := S.at 0 (w.heap.size + 1 + 1) 1 (IsI (k1 + k2 + 1) (((p + -q).den : Int))) rfl; have L90ya : World.cell? W2 ⟨w.heap.size + 1 + 1, 2, none⟩ = some (.bool s90y) := b90y.c0; have L90yb : World.cell? W2 ⟨w.heap.size + 1 + 1, 3, none⟩ = some (.slice a90y n90y c90y) := b90y.c1
  exact bodyPost_ret (v := .agg #[.bool s90x, .slice a90x n90x c90x, .bool s90y, .slice a90y n90y c90y]) (by simp [results, Tryz.results54, go_sem, L90xa, L90xb, L90ya, L90yb]) rfl (⟨_, rfl, S.ext, ⟨_, _, _, _, _, _, _, _, rfl, h90x, h90y⟩⟩)

set_option maxRecDepth 100000 in
set_option maxHeartbeats 4000000 in
theorem rqCmp_f {k1 k2 : Nat} {p q : Rat} {x y : Value} {w : World} (hx : IsRat k1 p x w) (hy : IsRat k2 q y w) (l1 : k1 ≤ 131072) (l2 : k2 ≤ 131072) : Calls Tryz.prog 28 #[x, y] w (Ret w (IsV (.int .i64 (cmpQ p q)))) := by
  unfold cmpQ
  obtain ⟨s1x, a1x, n1x, c1x, s1y, a1y, n1y, c1y, rfl, h1x, h1y⟩ := hx
  obtain ⟨s2x, a2x, n2x, c2x, s2y, a2y, n2y, c2y, rfl, h2x, h2y⟩ := hy
  obtain ⟨W, hW, S⟩ : ∃ W, W = (w.alloc (.cells #[.bool s1x, .slice a1x n1x c1x, .bool s1y, .slice a1y n1y c1y] 31)).alloc (.cells #[.bool s2x, .slice a2x n2x c2x, .bool s2y, .slice a2y n2y c2y] 31) ∧ Sto w W [((w.heap.size + 1, 1), IsI k2 ((q.den : Int))), ((w.heap.size + 1, 0), IsI k2 q.num), ((w.heap.size, 1), IsI k1 ((p.den : Int))), ((w.heap.size, 0), IsI k1 p.num)] := ⟨_, rfl, (((Sto.start w).new2 (w.heap.size) (by simp) s1x s1y a1x a1y n1x c1x n1y c1y 31 (IsI k1 p.num) (IsI k1 ((p.den : Int))) (IsI.gstb _ _) (h1x) (IsI.gstb _ _) (h1y)).new2 (w.heap.size + 1) (by simp) s2x s2y a2x a2y n2x c2x n2y c2y 31 (IsI k2 q.num) (IsI k2 ((q.den : Int))) (IsI.gstb _ _) (h2x.ext ((Ext.refl _).alloc _)) (IsI.gstb _ _) (h2y.ext ((Ext.refl _).alloc _)))⟩
  clear h1x h1y h2x h2y
  go_enter Tryz.func28, Tryz.ntmps28
  go_upto_region 1 with (fail)
  rw [← hW]
  clear hW
  refine rg 12 [some 5, some 6, some 7, some 8, some 9, some 10, some 11, some 12, some 13, some 14, some 15, some 4] [IsV (.pointer (some ⟨w.heap.size, 0, none⟩)), IsI k1 p.num, IsV (.pointer (some ⟨w.heap.size + 1, 2, none⟩)), IsI k2 ((q.den : Int)), IsI (k1 + k2) (p.num * (q.den : Int)), IsV (.pointer (some ⟨w.heap.size + 1, 0, none⟩)), IsI k2 q.num, IsV (.pointer (some ⟨w.heap.size, 2, none⟩)), IsI k1 ((p.den : Int)), IsI (k2 + k1) (q.num * (p.den : Int)), IsV (.int .i64 (cmpI (p.num * (q.den : Int)) (q.num * (p.den : Int)))), IsV (.int .i64 (cmpI (p.num * (q.den : Int)) (q.num * (p.den : Int))))] [] 0 ?_ ?_
  · refine Rc (fa (fa_Rat0 (w.heap.size) 0) (Od.lit 2)) ?_
    refine Rc (ldI S 3 (w.heap.size) 0 (Od.lc 0 5) ld_Int) ?_
    refine Rc (fa (fa_Rat1 (w.heap.size + 1) 0) (Od.lit 3)) ?_
    refine Rc (ldI S 0 (w.heap.size + 1) 1 (Od.lc 2 7) ld_Int) ?_
    refine Rc (cl2 (en Tryz.func84) (Od.lc (Φ := IsI k1 p.num) 1 6) (Od.lc (Φ := IsI k2 ((q.den : Int))) 3 8) (fun x0 x1 w' hE d0 d1 => RMul_f d0 d1 (by omega) (by omega))) ?_
    refine Rc (fa (fa_Rat0 (w.heap.size + 1) 0) (Od.lit 3)) ?_
    refine Rc (ldI S 1 (w.heap.size + 1) 0 (Od.lc 5 10) ld_Int) ?_
    refine Rc (fa (fa_Rat1 (w.heap.size) 0) (Od.lit 2)) ?_
    refine Rc (ldI S 2 (w.heap.size) 1 (Od.lc 7 12) ld_Int) ?_
    refine Rc (cl2 (en Tryz.func84) (Od.lc (Φ := IsI k2 q.num) 6 11) (Od.lc (Φ := IsI k1 ((p.den : Int))) 8 13) (fun x0 x1 w' hE d0 d1 => RMul_f d0 d1 (by omega) (by omega))) ?_
    refine Rc (cl2 (en Tryz.func23) (Od.lc (Φ := IsI (k1 + k2) (p.num * (q.den : Int))) 4 9) (Od.lc (Φ := IsI (k2 + k1) (q.num * (p.den : Int))) 9 14) (fun x0 x1 w' hE d0 d1 => RCmp_f d0 d1 (by omega) (by omega))) ?_
    refine Rc (mv (Od.lc 10 15)) ?_
    exact RgAll.nil
  intro v W1 e1 hΦ _
  replace S := S.mono e1
  have v11 : v 11 = .int .i64 (cmpI (p.num * (q.den : Int)) (q.num * (p.den : Int))) := hΦ 11 (by decide)
  simp only [layL, Act.put, List.setIfInBounds_toArray, List.set_cons_zero, List.set_cons_succ, Nat.reduceAdd]
  rw [v11]
  clear v11 hΦ e1
  refine wpAny_done (by kernel_rfl) ?_ _
  go_wp2_with fail
  exact bodyPost_ret (v := .int .i64 (cmpI (p.num * (q.den : Int)) (q.num * (p.den : Int)))) (by simp [results, Tryz.results28, go_sem]) rfl (⟨_, rfl, S.ext, rfl⟩)

set_option maxRecDepth 100000 in
set_option maxHeartbeats 4000000 in
theorem rqSign_f {k1 : Nat} {p : Rat} {x : Value} {w : World} (hx : IsRat k1 p x w) : Calls Tryz.prog 55 #[x] w (Ret w (IsV (.int .i64 p.num.sign))) := by
  obtain ⟨s1x, a1x, n1x, c1x, s1y, a1y, n1y, c1y, rfl, h1x, h1y⟩ := hx
  obtain ⟨W, hW, S⟩ : ∃ W, W = w.alloc (.cells #[.bool s1x, .slice a1x n1x c1x, .bool s1y, .slice a1y n1y c1y] 31) ∧ Sto w W [((w.heap.size, 1), IsI k1 ((p.den : Int))), ((w.heap.size, 0), IsI k1 p.num)] := ⟨_, rfl, ((Sto.start w).new2 (w.heap.size) (by simp) s1x s1y a1x a1y n1x c1x n1y c1y 31 (IsI k1 p.num) (IsI k1 ((p.den : Int))) (IsI.gstb _ _) (h1x) (IsI.gstb _ _) (h1y))⟩
  clear h1x h1y
  go_enter Tryz.func55, Tryz.ntmps55
  go_upto_region 1 with (fail)
  rw [← hW]
  clear hW
  refine rgs 4 [some 3, some 4, some 5, some 2] [IsV (.pointer (some ⟨w.heap.size, 0, none⟩)), IsI k1 p.num, IsV (.int .i64 (p.num.sign)), IsV (.int .i64 (p.num.sign))] [] ?_ ?_
  · refine Rc (fa (fa_Rat0 (w.heap.size) 0) (Od.lit 1)) ?_
    refine Rc (ldI S 1 (w.heap.size) 0 (Od.lc 0 3) ld_Int) ?_
    refine Rc (cl1 (en Tryz.func33) (Od.lc (Φ := IsI k1 p.num) 1 4) (fun x0 w' hE d0 => RSign_f d0)) ?_
    refine Rc (mv (Od.lc 2 5)) ?_
    exact RgAll.nil
  intro v W1 e1 hΦ _
  replace S := S.mono e1
  have v3 : v 3 = .int .i64 (p.num.sign) := hΦ 3 (by decide)
  simp only [layL, Act.put, List.setIfInBounds_toArray, List.set_cons_zero, List.set_cons_succ, Nat.reduceAdd]
  rw [v3]
  clear v3 hΦ e1
  refine wpList_nil ?_
  go_wp2_with fail
  exact bodyPost_ret (v := .int .i64 (p.num.sign)) (by simp [results, Tryz.results55, go_sem]) rfl (⟨_, rfl, S.ext, rfl⟩)

set_option maxRecDepth 100000 in
set_option maxHeartbeats 4000000 in
theorem rqFloor_f {k1 : Nat} {p : Rat} {x : Value} {w : World} (hx : IsRat k1 p x w) (l1 : k1 ≤ 131072) : Calls Tryz.prog 25 #[x] w (Ret w (IsI k1 p.floor)) := by
  have HZ := hid (show (p.den : Int) ≠ 0 by have := p.den_pos; omega)
  rw [← rat_floor]
  obtain ⟨s1x, a1x, n1x, c1x, s1y, a1y, n1y, c1y, rfl, h1x, h1y⟩ := hx
  obtain ⟨W, hW, S⟩ : ∃ W, W = (w.alloc (.cells #[.bool s1x, .slice a1x n1x c1x, .bool s1y, .slice a1y n1y c1y] 31)).alloc (.cells #[.bool false, .slice none 0 0] 29) ∧ Sto w W [((w.heap.size + 1, 0), IsI 0 0), ((w.heap.size, 1), IsI k1 ((p.den : Int))), ((w.heap.size, 0), IsI k1 p.num)] := ⟨_, rfl, (((Sto.start w).new2 (w.heap.size) (by simp) s1x s1y a1x a1y n1x c1x n1y c1y 31 (IsI k1 p.num) (IsI k1 ((p.den : Int))) (IsI.gstb _ _) (h1x) (IsI.gstb _ _) (h1y)).new1 (w.heap.size + 1) (by simp) false none 0 0 29 (IsI 0 0) (IsI.gstb _ _) (IsI.nil _ _))⟩
  clear h1x h1y
  go_enter Tryz.func25, Tryz.ntmps25
  go_upto_region 1 with (fail)
  rw [← hW]
  clear hW
  refine rgs 5 [some 3, some 4, some 5, some 6, some 7] [IsV (.pointer (some ⟨w.heap.size, 0, none⟩)), IsI k1 p.num, IsV (.pointer (some ⟨w.heap.size, 2, none⟩)), IsI k1 ((p.den : Int)), IsI k1 (p.num / (p.den : Int))] [] ?_ ?_
  · refine Rc (fa (fa_Rat0 (w.heap.size) 0) (Od.lit 1)) ?_
    refine Rc (ldI S 2 (w.heap.size) 0 (Od.lc 0 3) ld_Int) ?_
    refine Rc (fa (fa_Rat1 (w.heap.size) 0) (Od.lit 1)) ?_
    refine Rc (ldI S 1 (w.heap.size) 1 (Od.lc 2 5) ld_Int) ?_
    refine Rc (cl2 (en Tryz.func83) (Od.lc (Φ := IsI k1 p.num) 1 4) (Od.lc (Φ := IsI k1 ((p.den : Int))) 3 6) (fun x0 x1 w' hE d0 d1 => RDiv_f d0 d1 (by omega) (by omega) HZ.out)) ?_
    exact RgAll.nil
  intro v W1 e1 hΦ _
  replace S := S.mono e1
  have h7 := hΦ 4 (by decide)
  simp only [layL, Act.put, List.setIfInBounds_toArray, List.set_cons_zero, List.set_cons_succ, Nat.reduceAdd]
  clear hΦ e1
  try simp only [List.drop_succ_cons, List.drop_zero]
  (with_reducible refine stL ?_ (by rfl)); intro KK hKK; refine stI S 0 (w.heap.size + 1) 0 h7 st_Int (fun W2 S2 G2 => hKK _ _ ?_) rfl
  replace S := S2; clear S2 G2 hKK KK h7
  simp only [List.set_cons_zero] at S
  refine wpList_nil ?_
  go_wp2_with fail
  obtain ⟨s90x, a90x, n90x, c90x, b90x, h90x⟩ := S.at 0 (w.heap.size + 1) 0 (IsI k1 (p.num / (p.den : Int))) rfl; have L90xa : World.cell? W2 ⟨w.heap.size + 1, 0, none⟩ = some (.bool s90x) := b90x.c0; have L90xb : World.cell? W2 ⟨w.heap.size + 1, 1, none⟩ = some (.slice a90x n90x c90x) := b90x.c1
  exact bodyPost_ret (v := .agg #[.bool s90x, .slice a90x n90x c90x]) (by simp [results, Tryz.results25, go_sem, L90xa, L90xb]) rfl (⟨_, rfl, S.ext, h90x⟩)

set_option maxRecDepth 100000 in
set_option maxHeartbeats 4000000 in
theorem rqWhole_c {k1 : Nat} {z1 : Int} {x : Value} {w : World} (hx : IsI k1 z1 x w) : Calls Tryz.prog 29 #[x] w (Ret w (IsQ (IsI k1 z1) (IsI 2 1))) := by
  obtain ⟨s1, a1, n1, c1, rfl, h1⟩ := hx
  have h1 : IsI _ _ _ w := ⟨_, _, _, _, rfl, h1⟩
  obtain ⟨W, hW, S⟩ : ∃ W, W = (w.alloc (.cells #[.bool s1, .slice a1 n1 c1] 29)).alloc (.cells #[.bool false, .slice none 0 0, .bool false, .slice none 0 0] 31) ∧ Sto w W [((w.heap.size + 1, 1), IsI 0 0), ((w.heap.size + 1, 0), IsI 0 0), ((w.heap.size, 0), IsI k1 z1)] := ⟨_, rfl, (((Sto.start w).new1 (w.heap.size) (by simp) s1 a1 n1 c1 29 (IsI k1 z1) (IsI.gstb _ _) (h1)).new2 (w.heap.size + 1) (by simp) false false none none 0 0 0 0 31 (IsI 0 0) (IsI 0 0) (IsI.gstb _ _) (IsI.nil _ _) (IsI.gstb _ _) (IsI.nil _ _))⟩
  clear h1
  go_enter Tryz.func29, Tryz.ntmps29
  go_upto_region 1 with (fail)
  rw [← hW]
  clear hW
  refine rg 3 [some 3, some 4, some 5] [IsI k1 z1, IsI 2 1, IsQ (IsI k1 z1) (IsI 2 1)] [] 1 ?_ ?_
  · refine Rc (ldI S 2 (w.heap.size) 0 (Od.lit 1) ld_Int) ?_
    refine Rc (cl1 (en Tryz.func24) Od.con (fun x0 w' hE d0 => by { obtain rfl : x0 = .int .i64 1 := d0; exact ROf_f _ 1 (by decide) (by decide) })) ?_
    refine Rc (bq (Od.loc 0 3) (Od.loc 1 4) bd_Rat) ?_
    exact RgAll.nil
  intro v W1 e1 hΦ _
  replace S := S.mono e1
  have h5 := hΦ 2 (by decide)
  simp only [layL, Act.put, List.setIfInBounds_toArray, List.set_cons_zero, List.set_cons_succ, Nat.reduceAdd]
  clear hΦ e1
  refine stA 3 (h := fun KK hKK => stQ S 1 0 (w.heap.size + 1) 0 h5 (IsI.gstb _ _) (IsI.gstb _ _) st_Rat (fun W2 S2 G2 => hKK _ _ ?_) rfl rfl)
  replace S := S2; clear S2 G2 hKK KK h5
  simp only [List.set_cons_zero, List.set_cons_succ] at S
  refine wpAny_done (by kernel_rfl) ?_ _
  go_wp2_with fail
  obtain ⟨s90x, a90x, n90x, c90x, b90x, h90x⟩ := S.at 1 (w.heap.size + 1) 0 (IsI k1 z1) rfl; have L90xa : World.cell? W2 ⟨w.heap.size + 1, 0, none⟩ = some (.bool s90x) := b90x.c0; have L90xb : World.cell? W2 ⟨w.heap.size + 1, 1, none⟩ = some (.slice a90x n90x c90x) := b90x.c1
  obtain ⟨s90y, a90y, n90y, c90y, b90y, h90y⟩ := S.at 0 (w.heap.size + 1) 1 (IsI 2 1) rfl; have L90ya : World.cell? W2 ⟨w.heap.size + 1, 2, none⟩ = some (.bool s90y) := b90y.c0; have L90yb : World.cell? W2 ⟨w.heap.size + 1, 3, none⟩ = some (.slice a90y n90y c90y) := b90y.c1
  exact bodyPost_ret (v := .agg #[.bool s90x, .slice a90x n90x c90x, .bool s90y, .slice a90y n90y c90y]) (by simp [results, Tryz.results29, go_sem, L90xa, L90xb, L90ya, L90yb]) rfl (⟨_, rfl, S.ext, ⟨_, _, _, _, _, _, _, _, rfl, h90x, h90y⟩⟩)

theorem Ret.t2q {w : World} {K K' : Nat} {q q' : Rat} {Ψ : Value → World → Prop} {e : Ending} {w' : World} (h : Ret w (IsT2 (IsRat K q) Ψ) e w') (hq : q = q') (hk : K ≤ K') : Ret w (IsT2 (IsRat K' q') Ψ) e w' := by
  subst hq; exact h.mono fun _ _ ⟨u, v, e, h1, h2⟩ => ⟨u, v, e, h1.mono hk, h2⟩

set_option maxRecDepth 100000 in
set_option maxHeartbeats 4000000 in
theorem qDiv0_f {k1 k2 : Nat} {p q : Rat} {x y : Value} {w : World} (hx : IsRat k1 p x w) (hy : IsRat k2 q y w) (l1 : k1 ≤ 131072) (l2 : k2 ≤ 131072) (hz : q = 0) : Calls Tryz.prog 50 #[x, y] w (Ret w (IsT2 (IsQ (IsI 0 0) (IsI 0 0)) (IsV (.int .i64 4)))) := by
  have HZ := hid (show (p.den : Int) * q.num = 0 by rw [hz]; simp)
  clear hz
  obtain ⟨s1x, a1x, n1x, c1x, s1y, a1y, n1y, c1y, rfl, h1x, h1y⟩ := hx
  obtain ⟨s2x, a2x, n2x, c2x, s2y, a2y, n2y, c2y, rfl, h2x, h2y⟩ := hy
  obtain ⟨W, hW, S⟩ : ∃ W, W = ((w.alloc (.cells #[.bool s1x, .slice a1x n1x c1x, .bool s1y, .slice a1y n1y c1y] 31)).alloc (.cells #[.bool s2x, .slice a2x n2x c2x, .bool s2y, .slice a2y n2y c2y] 31)).alloc (.cells #[.bool false, .slice none 0 0, .bool false, .slice none 0 0] 31) ∧ Sto w W [((w.heap.size + 1 + 1, 1), IsI 0 0), ((w.heap.size + 1 + 1, 0), IsI 0 0), ((w.heap.size + 1, 1), IsI k2 ((q.den : Int))), ((w.heap.size + 1, 0), IsI k2 q.num), ((w.heap.size, 1), IsI k1 ((p.den : Int))), ((w.heap.size, 0), IsI k1 p.num)] := ⟨_, rfl, ((((Sto.start w).new2 (w.heap.size) (by simp) s1x s1y a1x a1y n1x c1x n1y c1y 31 (IsI k1 p.num) (IsI k1 ((p.den : Int))) (IsI.gstb _ _) (h1x) (IsI.gstb _ _) (h1y)).new2 (w.heap.size + 1) (by simp) s2x s2y a2x a2y n2x c2x n2y c2y 31 (IsI k2 q.num) (IsI k2 ((q.den : Int))) (IsI.gstb _ _) (h2x.ext ((Ext.refl _).alloc _)) (IsI.gstb _ _) (h2y.ext ((Ext.refl _).alloc _))).new2 (w.heap.size + 1 + 1) (by simp) false false none none 0 0 0 0 31 (IsI 0 0) (IsI 0 0) (IsI.gstb _ _) (IsI.nil _ _) (IsI.gstb _ _) (IsI.nil _ _))⟩
  clear h1x h1y h2x h2y
  go_enter Tryz.func50, Tryz.ntmps50
  go_upto_region 1 with (fail)
  rw [← hW]
  clear hW
  refine rg 13 [some 6, some 7, some 8, some 9, some 10, some 11, some 12, some 13, some 14, some 15, some 16, some 17, some 18] [IsV (.pointer (some ⟨w.heap.size, 0, none⟩)), IsI k1 p.num, IsV (.pointer (some ⟨w.heap.size + 1, 2, none⟩)), IsI k2 ((q.den : Int)), IsI (k1 + k2) (p.num * (q.den : Int)), IsV (.pointer (some ⟨w.heap.size, 2, none⟩)), IsI k1 ((p.den : Int)), IsV (.pointer (some ⟨w.heap.size + 1, 0, none⟩)), IsI k2 q.num, IsI (k1 + k2) ((p.den : Int) * q.num), IsT2 (IsQ (IsI 0 0) (IsI 0 0)) (IsV (.int .i64 4)), IsQ (IsI 0 0) (IsI 0 0), IsV (.int .i64 4)] [] 2 ?_ ?_
  · refine Rc (fa (fa_Rat0 (w.heap.size) 0) (Od.lit 2)) ?_
    refine Rc (ldI S 5 (w.heap.size) 0 (Od.lc 0 6) ld_Int) ?_
    refine Rc (fa (fa_Rat1 (w.heap.size + 1) 0) (Od.lit 3)) ?_
    refine Rc (ldI S 2 (w.heap.size + 1) 1 (Od.lc 2 8) ld_Int) ?_
    refine Rc (cl2 (en Tryz.func49) (Od.lc (Φ := IsI k1 p.num) 1 7) (Od.lc (Φ := IsI k2 ((q.den : Int))) 3 9) (fun x0 x1 w' hE d0 d1 => Mul_f d0 d1 (by omega) (by omega))) ?_
    refine Rc (fa (fa_Rat1 (w.heap.size) 0) (Od.lit 2)) ?_
    refine Rc (ldI S 4 (w.heap.size) 1 (Od.lc 5 11) ld_Int) ?_
    refine Rc (fa (fa_Rat0 (w.heap.size + 1) 0) (Od.lit 3)) ?_
    refine Rc (ldI S 3 (w.heap.size + 1) 0 (Od.lc 7 13) ld_Int) ?_
    refine Rc (cl2 (en Tryz.func49) (Od.lc (Φ := IsI k1 ((p.den : Int))) 6 12) (Od.lc (Φ := IsI k2 q.num) 8 14) (fun x0 x1 w' hE d0 d1 => Mul_f d0 d1 (by omega) (by omega))) ?_
    refine Rc (cl2 (en Tryz.func30) (Od.lc (Φ := IsI (k1 + k2) (p.num * (q.den : Int))) 4 10) (Od.lc (Φ := IsI (k1 + k2) ((p.den : Int) * q.num)) 9 15) (fun x0 x1 w' hE d0 d1 => qNew0_f d0 d1 HZ.out)) ?_
    refine Rc (ex (Od.loc 10 16) t20) ?_
    refine Rc (ex (Od.loc 10 16) t21) ?_
    exact RgAll.nil
  intro v W1 e1 hΦ _
  replace S := S.mono e1
  have h17 := hΦ 11 (by decide)
  have v12 : v 12 = .int .i64 4 := hΦ 12 (by decide)
  simp only [layL, Act.put, List.setIfInBounds_toArray, List.set_cons_zero, List.set_cons_succ, Nat.reduceAdd]
  rw [v12]
  clear v12 hΦ e1
  refine stA 13 (h := fun KK hKK => stQ S 1 0 (w.heap.size + 1 + 1) 0 h17 (IsI.gstb _ _) (IsI.gstb _ _) st_Rat (fun W2 S2 G2 => hKK _ _ ?_) rfl rfl)
  replace S := S2; clear S2 G2 hKK KK h17
  simp only [List.set_cons_zero, List.set_cons_succ] at S
  refine wpAny_ready (rs := [14]) (by kernel_rfl) (by simp) (AllReady.cons rfl (fun K hK => ?_) AllReady.nil); go_simp; refine hK _ _ ?_; clear hK K
  refine wpAny_done (by kernel_rfl) ?_ _
  go_wp2_with fail
  obtain ⟨s90x, a90x, n90x, c90x, b90x, h90x⟩ := S.at 1 (w.heap.size + 1 + 1) 0 (IsI 0 0) rfl; have L90xa : World.cell? W2 ⟨w.heap.size + 1 + 1, 0, none⟩ = some (.bool s90x) := b90x.c0; have L90xb : World.cell? W2 ⟨w.heap.size + 1 + 1, 1, none⟩ = some (.slice a90x n90x c90x) := b90x.c1
  obtain ⟨s90y, a90y, n90y, c90y, b90y, h90y⟩ := S.at 0 (w.heap.size + 1 + 1) 1 (IsI 0 0) rfl; have L90ya : World.cell? W2 ⟨w.heap.size + 1 + 1, 2, none⟩ = some (.bool s90y) := b90y.c0; have L90yb : World.cell? W2 ⟨w.heap.size + 1 + 1, 3, none⟩ = some (.slice a90y n90y c90y) := b90y.c1
  exact bodyPost_ret (v := .tuple #[.agg #[.bool s90x, .slice a90x n90x c90x, .bool s90y, .slice a90y n90y c90y], .int .i64 4]) (by simp [results, Tryz.results50, go_sem, L90xa, L90xb, L90ya, L90yb]) rfl (⟨_, rfl, S.ext, _, _, rfl, ⟨_, _, _, _, _, _, _, _, rfl, h90x, h90y⟩, rfl⟩)

set_option maxRecDepth 100000 in
set_option maxHeartbeats 4000000 in
theorem qDiv_f {k1 k2 : Nat} {p q : Rat} {x y : Value} {w : World} (hx : IsRat k1 p x w) (hy : IsRat k2 q y w) (l1 : k1 ≤ 131072) (l2 : k2 ≤ 131072) (hz : q ≠ 0) : Calls Tryz.prog 50 #[x, y] w (Ret w (IsT2 (IsRat (k1 + k2 + 2) (p / q)) (IsV (.int .i64 0)))) := by
  obtain ⟨r, hr⟩ : ∃ r, p / q = r := ⟨_, rfl⟩
  rw [hr]
  have HZ := hid (show (p.den : Int) * q.num ≠ 0 from Int.mul_ne_zero (by have := p.den_pos; omega) (fun h => hz (Rat.num_eq_zero.1 h)))
  have HQ := hid (show Rat.divInt (p.num * (q.den : Int)) ((p.den : Int) * q.num) = r by rw [← hr]; exact rat_div p q)
  have HK := hid (show max (k1 + k2 + 2) (k1 + k2) ≤ k1 + k2 + 2 by omega)
  clear hr hz
  obtain ⟨s1x, a1x, n1x, c1x, s1y, a1y, n1y, c1y, rfl, h1x, h1y⟩ := hx
  obtain ⟨s2x, a2x, n2x, c2x, s2y, a2y, n2y, c2y, rfl, h2x, h2y⟩ := hy
  obtain ⟨W, hW, S⟩ : ∃ W, W = ((w.alloc (.cells #[.bool s1x, .slice a1x n1x c1x, .bool s1y, .slice a1y n1y c1y] 31)).alloc (.cells #[.bool s2x, .slice a2x n2x c2x, .bool s2y, .slice a2y n2y c2y] 31)).alloc (.cells #[.bool false, .slice none 0 0, .bool false, .slice none 0 0] 31) ∧ Sto w W [((w.heap.size + 1 + 1, 1), IsI 0 0), ((w.heap.size + 1 + 1, 0), IsI 0 0), ((w.heap.size + 1, 1), IsI k2 ((q.den : Int))), ((w.heap.size + 1, 0), IsI k2 q.num), ((w.heap.size, 1), IsI k1 ((p.den : Int))), ((w.heap.size, 0), IsI k1 p.num)] := ⟨_, rfl, ((((Sto.start w).new2 (w.heap.size) (by simp) s1x s1y a1x a1y n1x c1x n1y c1y 31 (IsI k1 p.num) (IsI k1 ((p.den : Int))) (IsI.gstb _ _) (h1x) (IsI.gstb _ _) (h1y)).new2 (w.heap.size + 1) (by simp) s2x s2y a2x a2y n2x c2x n2y c2y 31 (IsI k2 q.num) (IsI k2 ((q.den : Int))) (IsI.gstb _ _) (h2x.ext ((Ext.refl _).alloc _)) (IsI.gstb _ _) (h2y.ext ((Ext.refl _).alloc _))).new2 (w.heap.size + 1 + 1) (by simp) false false none none 0 0 0 0 31 (IsI 0 0) (IsI 0 0) (IsI.gstb _ _) (IsI.nil _ _) (IsI.gstb _ _) (IsI.nil _ _))⟩
  clear h1x h1y h2x h2y
  go_enter Tryz.func50, Tryz.ntmps50
  go_upto_region 1 with (fail)
  rw [← hW]
  clear hW
  refine rg 13 [some 6, some 7, some 8, some 9, some 10, some 11, some 12, some 13, some 14, some 15, some 16, some 17, some 18] [IsV (.pointer (some ⟨w.heap.size, 0, none⟩)), IsI k1 p.num, IsV (.pointer (some ⟨w.heap.size + 1, 2, none⟩)), IsI k2 ((q.den : Int)), IsI (k1 + k2) (p.num * (q.den : Int)), IsV (.pointer (some ⟨w.heap.size, 2, none⟩)), IsI k1 ((p.den : Int)), IsV (.pointer (some ⟨w.heap.size + 1, 0, none⟩)), IsI k2 q.num, IsI (k1 + k2) ((p.den : Int) * q.num), IsT2 (IsQ (IsI (k1 + k2 + 2) r.num) (IsI (k1 + k2 + 2) ((r.den : Int)))) (IsV (.int .i64 0)), IsQ (IsI (k1 + k2 + 2) r.num) (IsI (k1 + k2 + 2) ((r.den : Int))), IsV (.int .i64 0)] [] 2 ?_ ?_
  · refine Rc (fa (fa_Rat0 (w.heap.size) 0) (Od.lit 2)) ?_
    refine Rc (ldI S 5 (w.heap.size) 0 (Od.lc 0 6) ld_Int) ?_
    refine Rc (fa (fa_Rat1 (w.heap.size + 1) 0) (Od.lit 3)) ?_
    refine Rc (ldI S 2 (w.heap.size + 1) 1 (Od.lc 2 8) ld_Int) ?_
    refine Rc (cl2 (en Tryz.func49) (Od.lc (Φ := IsI k1 p.num) 1 7) (Od.lc (Φ := IsI k2 ((q.den : Int))) 3 9) (fun x0 x1 w' hE d0 d1 => Mul_f d0 d1 (by omega) (by omega))) ?_
    refine Rc (fa (fa_Rat1 (w.heap.size) 0) (Od.lit 2)) ?_
    refine Rc (ldI S 4 (w.heap.size) 1 (Od.lc 5 11) ld_Int) ?_
    refine Rc (fa (fa_Rat0 (w.heap.size + 1) 0) (Od.lit 3)) ?_
    refine Rc (ldI S 3 (w.heap.size + 1) 0 (Od.lc 7 13) ld_Int) ?_
    refine Rc (cl2 (en Tryz.func49) (Od.lc (Φ := IsI k1 ((p.den : Int))) 6 12) (Od.lc (Φ := IsI k2 q.num) 8 14) (fun x0 x1 w' hE d0 d1 => Mul_f d0 d1 (by omega) (by omega))) ?_
    refine Rc (cl2 (en Tryz.func30) (Od.lc (Φ := IsI (k1 + k2) (p.num * (q.den : Int))) 4 10) (Od.lc (Φ := IsI (k1 + k2) ((p.den : Int) * q.num)) 9 15) (fun x0 x1 w' hE d0 d1 => Calls.mono (qNew_f d0 d1 (by omega) (by omega) HZ.out) fun _ _ h => h.t2q HQ.out HK.out)) ?_
    refine Rc (ex (Od.loc 10 16) t20) ?_
    refine Rc (ex (Od.loc 10 16) t21) ?_
    exact RgAll.nil
  intro v W1 e1 hΦ _
  replace S := S.mono e1
  have h17 := hΦ 11 (by decide)
  have v12 : v 12 = .int .i64 0 := hΦ 12 (by decide)
  simp only [layL, Act.put, List.setIfInBounds_toArray, List.set_cons_zero, List.set_cons_succ, Nat.reduceAdd]
  rw [v12]
  clear v12 hΦ e1
  refine stA 13 (h := fun KK hKK => stQ S 1 0 (w.heap.size + 1 + 1) 0 h17 (IsI.gstb _ _) (IsI.gstb _ _) st_Rat (fun W2 S2 G2 => hKK _ _ ?_) rfl rfl)
  replace S := S2; clear S2 G2 hKK KK h17
  simp only [List.set_cons_zero, List.set_cons_succ] at S
  refine wpAny_ready (rs := [14]) (by kernel_rfl) (by simp) (AllReady.cons rfl (fun K hK => ?_) AllReady.nil); go_simp; refine hK _ _ ?_; clear hK K
  refine wpAny_done (by kernel_rfl) ?_ _
  go_wp2_with fail
  obtain ⟨s90x, a90x, n90x, c90x, b90x, h90x⟩ := S.at 1 (w.heap.size + 1 + 1) 0 (IsI (k1 + k2 + 2) r.num) rfl; have L90xa : World.cell? W2 ⟨w.heap.size + 1 + 1, 0, none⟩ = some (.bool s90x) := b90x.c0; have L90xb : World.cell? W2 ⟨w.heap.size + 1 + 1, 1, none⟩ = some (.slice a90x n90x c90x) := b90x.c1
  obtain ⟨s90y, a90y, n90y, c90y, b90y, h90y⟩ := S.at 0 (w.heap.size + 1 + 1) 1 (IsI (k1 + k2 + 2) ((r.den : Int))) rfl; have L90ya : World.cell? W2 ⟨w.heap.size + 1 + 1, 2, none⟩ = some (.bool s90y) := b90y.c0; have L90yb : World.cell? W2 ⟨w.heap.size + 1 + 1, 3, none⟩ = some (.slice a90y n90y c90y) := b90y.c1
  exact bodyPost_ret (v := .tuple #[.agg #[.bool s90x, .slice a90x n90x c90x, .bool s90y, .slice a90y n90y c90y], .int .i64 0]) (by simp [results, Tryz.results50, go_sem, L90xa, L90xb, L90ya, L90yb]) rfl (⟨_, rfl, S.ext, _, _, rfl, ⟨_, _, _, _, _, _, _, _, rfl, h90x, h90y⟩, rfl⟩)

set_option maxRecDepth 100000 in
set_option maxHeartbeats 4000000 in
theorem rqDiv0_f {k1 k2 : Nat} {p q : Rat} {x y : Value} {w : World} (hx : IsRat k1 p x w) (hy : IsRat k2 q y w) (l1 : k1 ≤ 131072) (l2 : k2 ≤ 131072) (hz : q = 0) : Calls Tryz.prog 51 #[x, y] w (Ret w (IsT2 (IsQ (IsI 0 0) (IsI 0 0)) (IsV (.int .i64 4)))) := by
  have HZ := hid (show (p.den : Int) * q.num = 0 by rw [hz]; simp)
  clear hz
  obtain ⟨s1x, a1x, n1x, c1x, s1y, a1y, n1y, c1y, rfl, h1x, h1y⟩ := hx
  obtain ⟨s2x, a2x, n2x, c2x, s2y, a2y, n2y, c2y, rfl, h2x, h2y⟩ := hy
  obtain ⟨W, hW, S⟩ : ∃ W, W = ((w.alloc (.cells #[.bool s1x, .slice a1x n1x c1x, .bool s1y, .slice a1y n1y c1y] 31)).alloc (.cells #[.bool s2x, .slice a2x n2x c2x, .bool s2y, .slice a2y n2y c2y] 31)).alloc (.cells #[.bool false, .slice none 0 0, .bool false, .slice none 0 0] 31) ∧ Sto w W [((w.heap.size + 1 + 1, 1), IsI 0 0), ((w.heap.size + 1 + 1, 0), IsI 0 0), ((w.heap.size + 1, 1), IsI k2 ((q.den : Int))), ((w.heap.size + 1, 0), IsI k2 q.num), ((w.heap.size, 1), IsI k1 ((p.den : Int))), ((w.heap.size, 0), IsI k1 p.num)] := ⟨_, rfl, ((((Sto.start w).new2 (w.heap.size) (by simp) s1x s1y a1x a1y n1x c1x n1y c1y 31 (IsI k1 p.num) (IsI k1 ((p.den : Int))) (IsI.gstb _ _) (h1x) (IsI.gstb _ _) (h1y)).new2 (w.heap.size + 1) (by simp) s2x s2y a2x a2y n2x c2x n2y c2y 31 (IsI k2 q.num) (IsI k2 ((q.den : Int))) (IsI.gstb _ _) (h2x.ext ((Ext.refl _).alloc _)) (IsI.gstb _ _) (h2y.ext ((Ext.refl _).alloc _))).new2 (w.heap.size + 1 + 1) (by simp) false false none none 0 0 0 0 31 (IsI 0 0) (IsI 0 0) (IsI.gstb _ _) (IsI.nil _ _) (IsI.gstb _ _) (IsI.nil _ _))⟩
  clear h1x h1y h2x h2y
  go_enter Tryz.func51, Tryz.ntmps51
  go_upto_region 1 with (fail)
  rw [← hW]
  clear hW
  refine rg 13 [some 6, some 7, some 8, some 9, some 10, some 11, some 12, some 13, some 14, some 15, some 16, some 17, some 18] [IsV (.pointer (some ⟨w.heap.size, 0, none⟩)), IsI k1 p.num, IsV (.pointer (some ⟨w.heap.size + 1, 2, none⟩)), IsI k2 ((q.den : Int)), IsI (k1 + k2) (p.num * (q.den : Int)), IsV (.pointer (some ⟨w.heap.size, 2, none⟩)), IsI k1 ((p.den : Int)), IsV (.pointer (some ⟨w.heap.size + 1, 0, none⟩)), IsI k2 q.num, IsI (k1 + k2) ((p.den : Int) * q.num), IsT2 (IsQ (IsI 0 0) (IsI 0 0)) (IsV (.int .i64 4)), IsQ (IsI 0 0) (IsI 0 0), IsV (.int .i64 4)] [] 2 ?_ ?_
  · refine Rc (fa (fa_Rat0 (w.heap.size) 0) (Od.lit 2)) ?_
    refine Rc (ldI S 5 (w.heap.size) 0 (Od.lc 0 6) ld_Int) ?_
    refine Rc (fa (fa_Rat1 (w.heap.size + 1) 0) (Od.lit 3)) ?_
    refine Rc (ldI S 2 (w.heap.size + 1) 1 (Od.lc 2 8) ld_Int) ?_
    refine Rc (cl2 (en Tryz.func84) (Od.lc (Φ := IsI k1 p.num) 1 7) (Od.lc (Φ := IsI k2 ((q.den : Int))) 3 9) (fun x0 x1 w' hE d0 d1 => RMul_f d0 d1 (by omega) (by omega))) ?_
    refine Rc (fa (fa_Rat1 (w.heap.size) 0) (Od.lit 2)) ?_
    refine Rc (ldI S 4 (w.heap.size) 1 (Od.lc 5 11) ld_Int) ?_
    refine Rc (fa (fa_Rat0 (w.heap.size + 1) 0) (Od.lit 3)) ?_
    refine Rc (ldI S 3 (w.heap.size + 1) 0 (Od.lc 7 13) ld_Int) ?_
    refine Rc (cl2 (en Tryz.func84) (Od.lc (Φ := IsI k1 ((p.den : Int))) 6 12) (Od.lc (Φ := IsI k2 q.num) 8 14) (fun x0 x1 w' hE d0 d1 => RMul_f d0 d1 (by omega) (by omega))) ?_
    refine Rc (cl2 (en Tryz.func52) (Od.lc (Φ := IsI (k1 + k2) (p.num * (q.den : Int))) 4 10) (Od.lc (Φ := IsI (k1 + k2) ((p.den : Int) * q.num)) 9 15) (fun x0 x1 w' hE d0 d1 => rqNew0_f d0 d1 HZ.out)) ?_
    refine Rc (ex (Od.loc 10 16) t20) ?_
    refine Rc (ex (Od.loc 10 16) t21) ?_
    exact RgAll.nil
  intro v W1 e1 hΦ _
  replace S := S.mono e1
  have h17 := hΦ 11 (by decide)
  have v12 : v 12 = .int .i64 4 := hΦ 12 (by decide)
  simp only [layL, Act.put, List.setIfInBounds_toArray, List.set_cons_zero, List.set_cons_succ, Nat.reduceAdd]
  rw [v12]
  clear v12 hΦ e1
  refine stA 13 (h := fun KK hKK => stQ S 1 0 (w.heap.size + 1 + 1) 0 h17 (IsI.gstb _ _) (IsI.gstb _ _) st_Rat (fun W2 S2 G2 => hKK _ _ ?_) rfl rfl)
  replace S := S2; clear S2 G2 hKK KK h17
  simp only [List.set_cons_zero, List.set_cons_succ] at S
  refine wpAny_ready (rs := [14]) (by kernel_rfl) (by simp) (AllReady.cons rfl (fun K hK => ?_) AllReady.nil); go_simp; refine hK _ _ ?_; clear hK K
  refine wpAny_done (by kernel_rfl) ?_ _
  go_wp2_with fail
  obtain ⟨s90x, a90x, n90x, c90x, b90x, h90x⟩ := S.at 1 (w.heap.size + 1 + 1) 0 (IsI 0 0) rfl; have L90xa : World.cell? W2 ⟨w.heap.size + 1 + 1, 0, none⟩ = some (.bool s90x) := b90x.c0; have L90xb : World.cell? W2 ⟨w.heap.size + 1 + 1, 1, none⟩ = some (.slice a90x n90x c90x) := b90x.c1
  obtain ⟨s90y, a90y, n90y, c90y, b90y, h90y⟩ := S.at 0 (w.heap.size + 1 + 1) 1 (IsI 0 0) rfl; have L90ya : World.cell? W2 ⟨w.heap.size + 1 + 1, 2, none⟩ = some (.bool s90y) := b90y.c0; have L90yb : World.cell? W2 ⟨w.heap.size + 1 + 1, 3, none⟩ = some (.slice a90y n90y c90y) := b90y.c1
  exact bodyPost_ret (v := .tuple #[.agg #[.bool s90x, .slice a90x n90x c90x, .bool s90y, .slice a90y n90y c90y], .int .i64 4]) (by simp [results, Tryz.results51, go_sem, L90xa, L90xb, L90ya, L90yb]) rfl (⟨_, rfl, S.ext, _, _, rfl, ⟨_, _, _, _, _, _, _, _, rfl, h90x, h90y⟩, rfl⟩)

set_option maxRecDepth 100000 in
set_option maxHeartbeats 4000000 in
theorem rqDiv_f {k1 k2 : Nat} {p q : Rat} {x y : Value} {w : World} (hx : IsRat k1 p x w) (hy : IsRat k2 q y w) (l1 : k1 ≤ 131072) (l2 : k2 ≤ 131072) (hz : q ≠ 0) : Calls Tryz.prog 51 #[x, y] w (Ret w (IsT2 (IsRat (k1 + k2 + 2) (p / q)) (IsV (.int .i64 0)))) := by
  obtain ⟨r, hr⟩ : ∃ r, p / q = r := ⟨_, rfl⟩
  rw [hr]
  have HZ := hid (show (p.den : Int) * q.num ≠ 0 from Int.mul_ne_zero (by have := p.den_pos; omega) (fun h => hz (Rat.num_eq_zero.1 h)))
  have HQ := hid (show Rat.divInt (p.num * (q.den : Int)) ((p.den : Int) * q.num) = r by rw [← hr]; exact rat_div p q)
  have HK := hid (show max (k1 + k2) (k1 + k2) ≤ k1 + k2 + 2 by omega)
  clear hr hz
  obtain ⟨s1x, a1x, n1x, c1x, s1y, a1y, n1y, c1y, rfl, h1x, h1y⟩ := hx
  obtain ⟨s2x, a2x, n2x, c2x, s2y, a2y, n2y, c2y, rfl, h2x, h2y⟩ := hy
  obtain ⟨W, hW, S⟩ : ∃ W, W = ((w.alloc (.cells #[.bool s1x, .slice a1x n1x c1x, .bool s1y, .slice a1y n1y c1y] 31)).alloc (.cells #[.bool s2x, .slice a2x n2x c2x, .bool s2y, .slice a2y n2y c2y] 31)).alloc (.cells #[.bool false, .slice none 0 0, .bool false, .slice none 0 0] 31) ∧ Sto w W [((w.heap.size + 1 + 1, 1), IsI 0 0), ((w.heap.size + 1 + 1, 0), IsI 0 0), ((w.heap.size + 1, 1), IsI k2 ((q.den : Int))), ((w.heap.size + 1, 0), IsI k2 q.num), ((w.heap.size, 1), IsI k1 ((p.den : Int))), ((w.heap.size, 0), IsI k1 p.num)] := ⟨_, rfl, ((((Sto.start w).new2 (w.heap.size) (by simp) s1x s1y a1x a1y n1x c1x n1y c1y 31 (IsI k1 p.num) (IsI k1 ((p.den : Int))) (IsI.gstb _ _) (h1x) (IsI.gstb _ _) (h1y)).new2 (w.heap.size + 1) (by simp) s2x s2y a2x a2y n2x c2x n2y c2y 31 (IsI k2 q.num) (IsI k2 ((q.den : Int))) (IsI.gstb _ _) (h2x.ext ((Ext.refl _).alloc _)) (IsI.gstb _ _) (h2y.ext ((Ext.refl _).alloc _))).new2 (w.heap.size + 1 + 1) (by simp) false false none none 0 0 0 0 31 (IsI 0 0) (IsI 0 0) (IsI.gstb _ _) (IsI.nil _ _) (IsI.gstb _ _) (IsI.nil _ _))⟩
  clear h1x h1y h2x h2y
  go_enter Tryz.func51, Tryz.ntmps51
  go_upto_region 1 with (fail)
  rw [← hW]
  clear hW
  refine rg 13 [some 6, some 7, some 8, some 9, some 10, some 11, some 12, some 13, some 14, some 15, some 16, some 17, some 18] [IsV (.pointer (some ⟨w.heap.size, 0, none⟩)), IsI k1 p.num, IsV (.pointer (some ⟨w.heap.size + 1, 2, none⟩)), IsI k2 ((q.den : Int)), IsI (k1 + k2) (p.num * (q.den : Int)), IsV (.pointer (some ⟨w.heap.size, 2, none⟩)), IsI k1 ((p.den : Int)), IsV (.pointer (some ⟨w.heap.size + 1, 0, none⟩)), IsI k2 q.num, IsI (k1 + k2) ((p.den : Int) * q.num), IsT2 (IsQ (IsI (k1 + k2 + 2) r.num) (IsI (k1 + k2 + 2) ((r.den : Int)))) (IsV (.int .i64 0)), IsQ (IsI (k1 + k2 + 2) r.num) (IsI (k1 + k2 + 2) ((r.den : Int))), IsV (.int .i64 0)] [] 2 ?_ ?_
  · refine Rc (fa (fa_Rat0 (w.heap.size) 0) (Od.lit 2)) ?_
    refine Rc (ldI S 5 (w.heap.size) 0 (Od.lc 0 6) ld_Int) ?_
    refine Rc (fa (fa_Rat1 (w.heap.size + 1) 0) (Od.lit 3)) ?_
    refine Rc (ldI S 2 (w.heap.size + 1) 1 (Od.lc 2 8) ld_Int) ?_
    refine Rc (cl2 (en Tryz.func84) (Od.lc (Φ := IsI k1 p.num) 1 7) (Od.lc (Φ := IsI k2 ((q.den : Int))) 3 9) (fun x0 x1 w' hE d0 d1 => RMul_f d0 d1 (by omega) (by omega))) ?_
    refine Rc (fa (fa_Rat1 (w.heap.size) 0) (Od.lit 2)) ?_
    refine Rc (ldI S 4 (w.heap.size) 1 (Od.lc 5 11) ld_Int) ?_
    refine Rc (fa (fa_Rat0 (w.heap.size + 1) 0) (Od.lit 3)) ?_
    refine Rc (ldI S 3 (w.heap.size + 1) 0 (Od.lc 7 13) ld_Int) ?_
    refine Rc (cl2 (en Tryz.func84) (Od.lc (Φ := IsI k1 ((p.den : Int))) 6 12) (Od.lc (Φ := IsI k2 q.num) 8 14) (fun x0 x1 w' hE d0 d1 => RMul_f d0 d1 (by omega) (by omega))) ?_
    refine Rc (cl2 (en Tryz.func52) (Od.lc (Φ := IsI (k1 + k2) (p.num * (q.den : Int))) 4 10) (Od.lc (Φ := IsI (k1 + k2) ((p.den : Int) * q.num)) 9 15) (fun x0 x1 w' hE d0 d1 => Calls.mono (rqNew_f d0 d1 (by omega) (by omega) HZ.out) fun _ _ h => h.t2q HQ.out HK.out)) ?_
    refine Rc (ex (Od.loc 10 16) t20) ?_
    refine Rc (ex (Od.loc 10 16) t21) ?_
    exact RgAll.nil
  intro v W1 e1 hΦ _
  replace S := S.mono e1
  have h17 := hΦ 11 (by decide)
  have v12 : v 12 = .int .i64 0 := hΦ 12 (by decide)
  simp only [layL, Act.put, List.setIfInBounds_toArray, List.set_cons_zero, List.set_cons_succ, Nat.reduceAdd]
  rw [v12]
  clear v12 hΦ e1
  refine stA 13 (h := fun KK hKK => stQ S 1 0 (w.heap.size + 1 + 1) 0 h17 (IsI.gstb _ _) (IsI.gstb _ _) st_Rat (fun W2 S2 G2 => hKK _ _ ?_) rfl rfl)
  replace S := S2; clear S2 G2 hKK KK h17
  simp only [List.set_cons_zero, List.set_cons_succ] at S
  refine wpAny_ready (rs := [14]) (by kernel_rfl) (by simp) (AllReady.cons rfl (fun K hK => ?_) AllReady.nil); go_simp; refine hK _ _ ?_; clear hK K
  refine wpAny_done (by kernel_rfl) ?_ _
  go_wp2_with fail
  obtain ⟨s90x, a90x, n90x, c90x, b90x, h90x⟩ := S.at 1 (w.heap.size + 1 + 1) 0 (IsI (k1 + k2 + 2) r.num) rfl; have L90xa : World.cell? W2 ⟨w.heap.size + 1 + 1, 0, none⟩ = some (.bool s90x) := b90x.c0; have L90xb : World.cell? W2 ⟨w.heap.size + 1 + 1, 1, none⟩ = some (.slice a90x n90x c90x) := b90x.c1
  obtain ⟨s90y, a90y, n90y, c90y, b90y, h90y⟩ := S.at 0 (w.heap.size + 1 + 1) 1 (IsI (k1 + k2 + 2) ((r.den : Int))) rfl; have L90ya : World.cell? W2 ⟨w.heap.size + 1 + 1, 2, none⟩ = some (.bool s90y) := b90y.c0; have L90yb : World.cell? W2 ⟨w.heap.size + 1 + 1, 3, none⟩ = some (.slice a90y n90y c90y) := b90y.c1
  exact bodyPost_ret (v := .tuple #[.agg #[.bool s90x, .slice a90x n90x c90x, .bool s90y, .slice a90y n90y c90y], .int .i64 0]) (by simp [results, Tryz.results51, go_sem, L90xa, L90xb, L90ya, L90yb]) rfl (⟨_, rfl, S.ext, _, _, rfl, ⟨_, _, _, _, _, _, _, _, rfl, h90x, h90y⟩, rfl⟩)
end Go.Proofs.YtcgdkfadcglekaaGreatDoor
