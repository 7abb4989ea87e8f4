/-
  The reference of package density: Total, Local. (Printed by wip/gen/den35.py.)
-/
import Derived.Test.YtknffgdbdadpcaaGreatDoorDen34
import Derived.Test.YtknffgdbdadpcaaGreatDoorDen7
namespace Go.Proofs.YtknffgdbdadpcaaGreatDoor
open Go Go.RowKit
theorem pairF_box {ch : Nat → Int} (hb : ∀ a, -1 ≤ ch a ∧ ch a ≤ 1) (v d : Nat) : -2 ≤ pairF ch v d ∧ pairF ch v d ≤ 2 := by
  have h1 := hb d; have h2 := hb (v / d)
  unfold pairF
  split
  · split <;> omega
  · omega
theorem pair_box {ch : Nat → Int} (hb : ∀ a, -1 ≤ ch a ∧ ch a ≤ 1) (v : Nat) : ∀ h : Nat, -(2 * (h : Int)) ≤ SI (pairF ch v) h ∧ SI (pairF ch v) h ≤ 2 * (h : Int)
  | 0 => by simp [SI]
  | h + 1 => by
    have h1 := pair_box hb v h; have h2 := pairF_box hb v (h + 1)
    have e : SI (pairF ch v) (h + 1) = SI (pairF ch v) h + pairF ch v (h + 1) := rfl
    omega

set_option maxRecDepth 100000 in
set_option maxHeartbeats 16000000 in
theorem rTotal_e {k1 k2 : Nat} {z z2 ue : Int} {x y : Value} {w : World} (hx : IsI k1 z x w) (hy : IsI k2 z2 y w) (HRF : Hid (∀ (x y : Value) (w : World), IsI k1 z x w → IsI k2 z2 y w → Calls Tryz.prog 23 #[x, y] w (Ret w (IsV (.int .i64 ue))))) (HUB : Hid ((ue != 0) = true)) : Calls Tryz.prog 13 #[x, y] w (Ret w (IsT2 (IsV (.int .i64 0)) (IsV (.int .i64 ue)))) := by
  obtain ⟨s1, a1, n1, c1, rfl, h1⟩ := hx
  have h1 : IsI _ _ _ w := ⟨_, _, _, _, rfl, h1⟩
  obtain ⟨s2, a2, n2, c2, rfl, h2⟩ := hy
  have h2 : IsI _ _ _ w := ⟨_, _, _, _, rfl, h2⟩
  obtain ⟨W, hW, S⟩ : ∃ W, W = (w.alloc (.cells #[.bool s1, .slice a1 n1 c1] 33)).alloc (.cells #[.bool s2, .slice a2 n2 c2] 33) ∧ Sto w W [((w.heap.size + 1, 0), IsI k2 z2), ((w.heap.size, 0), IsI k1 z)] := ⟨_, rfl, (((Sto.start w).new1 (w.heap.size) (by simp) s1 a1 n1 c1 33 (IsI k1 z) (IsI.gstb _ _) (h1)).new1 (w.heap.size + 1) (by simp) s2 a2 n2 c2 33 (IsI k2 z2) (IsI.gstb _ _) (h2.ext ((Ext.refl _).alloc _)))⟩
  clear h1 h2
  go_enter Tryz.func13, Tryz.ntmps13
  go_upto_region 1 with (fail)
  rw [← hW]
  clear hW
  refine rgs 4 [some 11, some 12, some 13, some 6] [IsI k1 z, IsI k2 z2, IsV (.int .i64 ue), IsV (.int .i64 ue)] [] ?_ ?_
  · refine Rc (ldI S 1 (w.heap.size) 0 (Od.lit 2) ld_Int) ?_
    refine Rc (ldI S 0 (w.heap.size + 1) 0 (Od.lit 3) ld_Int) ?_
    refine Rc (cl2 (en Tryz.func23) (Od.lc (Φ := IsI k1 z) 0 11) (Od.lc (Φ := IsI k2 z2) 1 12) (fun x0 x1 w' hE d0 d1 => HRF.out _ _ _ d0 d1)) ?_
    refine Rc (mv (Od.lc 2 13)) ?_
    exact RgAll.nil
  intro v W1 e1 hΦ _
  replace S := S.mono e1
  have v3 : v 3 = .int .i64 ue := hΦ 3 (by decide)
  simp only [layL, Act.put, uAx, u0x, u1x, Nat.reduceAdd]
  rw [v3]
  clear v3 hΦ e1
  refine wpList_nil ?_
  go_upto_region 2 with (fail)
  refine rgs 2 [some 14, some 15] [IsV (.int .i64 ue), IsV (.bool true)] [] ?_ ?_
  · refine Rc (mv (Od.lit 6)) ?_
    refine Rc (bn (r := .bool true) (Od.loc 0 14) Od.con (hr := fun w => by have hx9 := HUB.out; go_simp)) ?_
    exact RgAll.nil
  intro v W2 e1 hΦ _
  replace S := S.mono e1
  have v1 : v 1 = .bool true := hΦ 1 (by decide)
  simp only [layL, Act.put, uAx, u0x, u1x, Nat.reduceAdd]
  rw [v1]
  clear v1 hΦ e1
  refine wpList_nil ?_
  go_upto_region 3 with (fail)
  refine rgs 3 [some 16, some 4, some 5] [IsV (.int .i64 ue), IsV (.int .i64 0), IsV (.int .i64 ue)] [] ?_ ?_
  · refine Rc (mv (Od.lit 6)) ?_
    refine Rc (mv Od.con) ?_
    refine Rc (mv (Od.lc 0 16)) ?_
    exact RgAll.nil
  intro v W3 e1 hΦ _
  replace S := S.mono e1
  have v1 : v 1 = .int .i64 0 := hΦ 1 (by decide)
  have v2 : v 2 = .int .i64 ue := hΦ 2 (by decide)
  simp only [layL, Act.put, uAx, u0x, u1x, Nat.reduceAdd]
  rw [v1, v2]
  clear v1 v2 hΦ e1
  refine wpList_nil ?_
  go_wp2_with fail
  exact bodyPost_ret (v := .tuple #[.int .i64 0, .int .i64 ue]) (by simp [results, Tryz.results13, go_sem]) rfl (⟨_, rfl, S.ext, _, _, rfl, rfl, rfl⟩)

set_option maxRecDepth 100000 in
set_option maxHeartbeats 16000000 in
theorem rTotal_a {k1 k2 n : Nat} {z tv : Int} {x y : Value} {w : World} (hx : IsI k1 z x w) (hy : IsI k2 ((n : Nat) : Int) y w) (HK : Hid (k1 ≤ 67108864)) (HK1 : Hid (k1 ≤ 131072)) (HNB : Hid (0 < n ∧ n ≤ 1048576)) (HRF : Hid (∀ (x y : Value) (w : World), IsI k1 z x w → IsI k2 ((n : Nat) : Int) y w → Calls Tryz.prog 23 #[x, y] w (Ret w (IsV (.int .i64 0))))) (HT : Hid (IntKind.i64.wrap (unitZ z * totP (locg (kr z)) n) = tv)) : Calls Tryz.prog 13 #[x, y] w (Ret w (IsT2 (IsV (.int .i64 tv)) (IsV (.int .i64 0)))) := by
  obtain ⟨s1, a1, n1, c1, rfl, h1⟩ := hx
  have h1 : IsI _ _ _ w := ⟨_, _, _, _, rfl, h1⟩
  obtain ⟨s2, a2, n2, c2, rfl, h2⟩ := hy
  have h2 : IsI _ _ _ w := ⟨_, _, _, _, rfl, h2⟩
  obtain ⟨W, hW, S⟩ : ∃ W, W = (w.alloc (.cells #[.bool s1, .slice a1 n1 c1] 33)).alloc (.cells #[.bool s2, .slice a2 n2 c2] 33) ∧ Sto w W [((w.heap.size + 1, 0), IsI k2 (((n : Nat) : Int))), ((w.heap.size, 0), IsI k1 z)] := ⟨_, rfl, (((Sto.start w).new1 (w.heap.size) (by simp) s1 a1 n1 c1 33 (IsI k1 z) (IsI.gstb _ _) (h1)).new1 (w.heap.size + 1) (by simp) s2 a2 n2 c2 33 (IsI k2 (((n : Nat) : Int))) (IsI.gstb _ _) (h2.ext ((Ext.refl _).alloc _)))⟩
  clear h1 h2
  go_enter Tryz.func13, Tryz.ntmps13
  go_upto_region 1 with (fail)
  rw [← hW]
  clear hW
  refine rgs 4 [some 11, some 12, some 13, some 6] [IsI k1 z, IsI k2 (((n : Nat) : Int)), IsV (.int .i64 0), IsV (.int .i64 0)] [] ?_ ?_
  · refine Rc (ldI S 1 (w.heap.size) 0 (Od.lit 2) ld_Int) ?_
    refine Rc (ldI S 0 (w.heap.size + 1) 0 (Od.lit 3) ld_Int) ?_
    refine Rc (cl2 (en Tryz.func23) (Od.lc (Φ := IsI k1 z) 0 11) (Od.lc (Φ := IsI k2 (((n : Nat) : Int))) 1 12) (fun x0 x1 w' hE d0 d1 => HRF.out _ _ _ d0 d1)) ?_
    refine Rc (mv (Od.lc 2 13)) ?_
    exact RgAll.nil
  intro v W1 e1 hΦ _
  replace S := S.mono e1
  have v3 : v 3 = .int .i64 0 := hΦ 3 (by decide)
  simp only [layL, Act.put, uAx, u0x, u1x, Nat.reduceAdd]
  rw [v3]
  clear v3 hΦ e1
  refine wpList_nil ?_
  go_upto_region 2 with (fail)
  refine rgs 2 [some 14, some 15] [IsV (.int .i64 0), IsV (.bool false)] [] ?_ ?_
  · refine Rc (mv (Od.lit 6)) ?_
    refine Rc (bn (r := .bool false) (Od.loc 0 14) Od.con (hr := fun w => by go_simp)) ?_
    exact RgAll.nil
  intro v W2 e1 hΦ _
  replace S := S.mono e1
  have v1 : v 1 = .bool false := hΦ 1 (by decide)
  simp only [layL, Act.put, uAx, u0x, u1x, Nat.reduceAdd]
  rw [v1]
  clear v1 hΦ e1
  refine wpList_nil ?_
  go_upto_region 4 with (fail)
  refine rgs 7 [some 18, some 19, some 17, some 20, some 21, some 7, some 8] [IsI k2 (((n : Nat) : Int)), IsT2 (IsV (.int .i64 ((n : Nat) : Int))) (IsV (.bool true)), IsT2 (IsV (.int .i64 ((n : Nat) : Int))) (IsV (.bool true)), IsV (.int .i64 ((n : Nat) : Int)), IsV (.bool true), IsV (.int .i64 ((n : Nat) : Int)), IsV (.bool true)] [] ?_ ?_
  · refine Rc (ldI S 0 (w.heap.size + 1) 0 (Od.lit 3) ld_Int) ?_
    refine Rc (cl1 (en Tryz.func47) (Od.lc (Φ := IsI k2 (((n : Nat) : Int))) 0 18) (fun x0 w' hE d0 => RLow_f d0 (by have := HNB.out; omega))) ?_
    refine Rc (mv (Od.lc 1 19)) ?_
    refine Rc (ex (Od.loc 2 17) t20) ?_
    refine Rc (ex (Od.loc 2 17) t21) ?_
    refine Rc (mv (Od.lc 3 20)) ?_
    refine Rc (mv (Od.lc 4 21)) ?_
    exact RgAll.nil
  intro v W3 e1 hΦ _
  replace S := S.mono e1
  have v5 : v 5 = .int .i64 ((n : Nat) : Int) := hΦ 5 (by decide)
  simp only [layL, Act.put, uAx, u0x, u1x, Nat.reduceAdd]
  rw [v5]
  clear v5 hΦ e1
  refine wpList_nil ?_
  go_upto_region 5 with (fail)
  refine rgs 1 [some 9] [IsV (.int .i64 0)] [] ?_ ?_
  · refine Rc (mv Od.con) ?_
    exact RgAll.nil
  intro v W4 e1 hΦ _
  replace S := S.mono e1
  have v0 : v 0 = .int .i64 0 := hΦ 0 (by decide)
  simp only [layL, Act.put, uAx, u0x, u1x]
  rw [v0]
  clear v0 hΦ e1
  refine wpList_nil ?_
  go_upto_region 6 with (fail)
  refine rgs 1 [some 10] [IsV (.int .i64 1)] [] ?_ ?_
  · refine Rc (mv Od.con) ?_
    exact RgAll.nil
  intro v W5 e1 hΦ _
  replace S := S.mono e1
  have v0 : v 0 = .int .i64 1 := hΦ 0 (by decide)
  simp only [layL, Act.put, uAx, u0x, u1x]
  rw [v0]
  clear v0 hΦ e1
  refine wpList_nil ?_
  go_wp2_with fail
  have S0 := hid S; clear S
  go_loopg [9, 10] 1025 (fun gk v9 v10 wr => ∃ (m i : Nat) (o : Int), v9 = .int .i64 o ∧ v10 = .int .i64 ((m : Nat) : Int) ∧ m = i + 1 ∧ m + gk = 1026 ∧ i ≤ n ∧ SI (pairF (kr z) n) i = o ∧ Hid (Sto w wr [((w.heap.size + 1, 0), IsI k2 (((n : Nat) : Int))), ((w.heap.size, 0), IsI k1 z)]))
  case atStart => exact ⟨1, 0, 0, rfl, rfl, rfl, rfl, Nat.zero_le _, rfl, S0⟩
  case round =>
    clear S0
    obtain ⟨m, i, o, rfl, rfl, hmi, hg, hin, ho, S⟩ := hrel
    have S := S.out
    have hnb := HNB.out
    obtain ⟨sq, hsq⟩ : ∃ s, m * m = s := ⟨_, rfl⟩
    have hsi : ((m : Nat) : Int) * ((m : Nat) : Int) = ((sq : Nat) : Int) := by rw [← hsq, Int.natCast_mul]
    have hmb : m * m ≤ 1026 * 1026 := Nat.mul_le_mul (by omega) (by omega)
    have HSQ := hid (show IntKind.i64.wrap (((m : Nat) : Int) * ((m : Nat) : Int)) = ((sq : Nat) : Int) by rw [hsi]; exact wrapC_small (by omega) (by omega))
    have hob := pair_box (kr_le z) n i
    rw [ho] at hob
    by_cases hle : sq ≤ n
    · have hm1 : m ≤ 1024 := by
        refine Nat.le_of_not_lt fun h => ?_
        have := Nat.mul_le_mul (show 1025 ≤ m from h) (show 1025 ≤ m from h)
        omega
      have HLE := hid (show ((sq : Nat) : Int) ≤ ((n : Nat) : Int) ∧ sq ≤ n by omega)
      obtain ⟨r, hr⟩ : ∃ r, n % m = r := ⟨_, rfl⟩
      have hrl := Nat.mod_lt n (show 0 < m by omega)
      rw [hr] at hrl
      have HM := hid (show ((n : Nat) : Int).tmod ((m : Nat) : Int) = ((r : Nat) : Int) ∧ IntKind.i64.wrap ((r : Nat) : Int) = ((r : Nat) : Int) ∧ ¬ m = 0 from ⟨by rw [Int.tmod_eq_emod_of_nonneg (by omega), ← hr]; rfl, wrapC_small (by omega) (by omega), by omega⟩)
      have HM1 := hid (show IntKind.i64.wrap (((m : Nat) : Int) + 1) = ((m : Nat) : Int) + 1 from wrapC_small (by omega) (by omega))
      have HG := hid (show m = i + 1 ∧ m + gk = 1026 ∧ m ≤ 1024 ∧ m ≤ n by have := Nat.le_mul_of_pos_right m (show 0 < m by omega); omega)
      have hstep : SI (pairF (kr z) n) m = o + pairF (kr z) n m := by rw [hmi, ← ho]; rfl
      obtain ⟨s1, hs1⟩ : ∃ t, kr z m = t := ⟨_, rfl⟩
      have hb1 := kr_le z m
      rw [hs1] at hb1
      by_cases h0 : r = 0
      · subst h0
        obtain ⟨o1, ho1⟩ : ∃ t, o + s1 = t := ⟨_, rfl⟩
        have HO1 := hid (show IntKind.i64.wrap (o + s1) = o1 by rw [ho1]; exact wrapC_small (by omega) (by omega))
        have HS1 := hid hs1
        by_cases he : sq = n
        · have HEQ := hid (show (((sq : Nat) : Int) != ((n : Nat) : Int)) = false by rw [he]; simp)
          have HST := hid (show SI (pairF (kr z) n) m = o1 by rw [hstep]; unfold pairF; rw [if_pos ⟨hr, by omega⟩, if_neg (fun h => h (by omega)), hs1]; omega)
          clear he ho1 hb1 hs1 hstep hrl hr hm1 hle hob hmb hsi hsq hnb ho hin hg hmi
          go_upto_region 7 with (fail)
          refine rgs 5 [some 22, some 23, some 24, some 25, some 26] [IsV (.int .i64 ((m : Nat) : Int)), IsV (.int .i64 ((m : Nat) : Int)), IsV (.int .i64 ((sq : Nat) : Int)), IsV (.int .i64 ((n : Nat) : Int)), IsV (.bool true)] [] ?_ ?_
          · refine Rc (mv (Od.lit 10)) ?_
            refine Rc (mv (Od.lit 10)) ?_
            refine Rc (bn (r := .int .i64 ((sq : Nat) : Int)) (Od.loc 0 22) (Od.loc 1 23) (hr := fun w => by have hx9 := HSQ.out; go_simp)) ?_
            refine Rc (mv (Od.lit 7)) ?_
            refine Rc (bn (r := .bool true) (Od.loc 2 24) (Od.loc 3 25) (hr := fun w => by have hx9 := HLE.out.1; have hx8 := HLE.out.2; go_simp)) ?_
            exact RgAll.nil
          intro v W6 e1 hΦ _
          replace S := S.mono e1
          have v4 : v 4 = .bool true := hΦ 4 (by decide)
          simp only [layL, Act.put, uAx, u0x, u1x, Nat.reduceAdd]
          rw [v4]
          clear v4 hΦ e1
          refine wpList_nil ?_
          go_upto_region 9 with (fail)
          refine rgs 4 [some 29, some 30, some 31, some 32] [IsV (.int .i64 ((n : Nat) : Int)), IsV (.int .i64 ((m : Nat) : Int)), IsV (.int .i64 0), IsV (.bool false)] [] ?_ ?_
          · refine Rc (mv (Od.lit 7)) ?_
            refine Rc (mv (Od.lit 10)) ?_
            refine Rc (bn (r := .int .i64 0) (Od.loc 0 29) (Od.loc 1 30) (hr := fun w => by have hx9 := HM.out.1; have hx8 := HM.out.2.1; have hx7 := HM.out.2.2; go_simp)) ?_
            refine Rc (bn (r := .bool false) (Od.loc 2 31) Od.con (hr := fun w => by go_simp)) ?_
            exact RgAll.nil
          intro v W7 e1 hΦ _
          replace S := S.mono e1
          have v3 : v 3 = .bool false := hΦ 3 (by decide)
          simp only [layL, Act.put, uAx, u0x, u1x, Nat.reduceAdd]
          rw [v3]
          clear v3 hΦ e1
          refine wpList_nil ?_
          go_upto_region 10 with (fail)
          refine rg 6 [some 33, some 34, some 35, some 36, some 37, some 38] [IsV (.int .i64 o), IsI k1 z, IsV (.int .i64 ((m : Nat) : Int)), IsI 2 (((m : Nat) : Int)), IsV (.int .i64 s1), IsV (.int .i64 o1)] [] 1 ?_ ?_
          · refine Rc (mv (Od.lit 9)) ?_
            refine Rc (ldI S 1 (w.heap.size) 0 (Od.lit 2) ld_Int) ?_
            refine Rc (mv (Od.lit 10)) ?_
            refine Rc (cl1 (en Tryz.func22) (Od.lc (Φ := IsV (.int .i64 ((m : Nat) : Int))) 2 35) (fun x0 w' hE d0 => by { obtain rfl : x0 = .int .i64 ((m : Nat) : Int) := d0; exact ROf_f _ ((m : Nat) : Int) (by omega) (by have := HG.out; omega) })) ?_
            refine Rc (cl2 (en Tryz.func48) (Od.lc (Φ := IsI k1 z) 1 34) (Od.lc (Φ := IsI 2 (((m : Nat) : Int))) 3 36) (fun x0 x1 w' hE d0 d1 => (by have hh := RKron_f d0 d1 HK.out (by decide) ⟨by have := HG.out; omega, by have := HG.out; omega⟩; rw [HS1.out] at hh; exact hh))) ?_
            refine Rc (bn (r := .int .i64 o1) (Od.loc 0 33) (Od.loc 4 37) (hr := fun w => by have hx9 := HO1.out; go_simp)) ?_
            exact RgAll.nil
          intro v W8 e1 hΦ _
          replace S := S.mono e1
          have v5 : v 5 = .int .i64 o1 := hΦ 5 (by decide)
          simp only [layL, Act.put, uAx, u0x, u1x, Nat.reduceAdd]
          rw [v5]
          clear v5 hΦ e1
          refine wpAny_ready (rs := [6]) (by kernel_rfl) (by simp) (AllReady.cons rfl (fun K hK => ?_) AllReady.nil); go_simp; refine hK _ _ ?_; clear hK K
          refine wpAny_done (by kernel_rfl) ?_ _
          go_upto_region 11 with (fail)
          refine rgs 5 [some 39, some 40, some 41, some 42, some 43] [IsV (.int .i64 ((m : Nat) : Int)), IsV (.int .i64 ((m : Nat) : Int)), IsV (.int .i64 ((sq : Nat) : Int)), IsV (.int .i64 ((n : Nat) : Int)), IsV (.bool false)] [] ?_ ?_
          · refine Rc (mv (Od.lit 10)) ?_
            refine Rc (mv (Od.lit 10)) ?_
            refine Rc (bn (r := .int .i64 ((sq : Nat) : Int)) (Od.loc 0 39) (Od.loc 1 40) (hr := fun w => by have hx9 := HSQ.out; go_simp)) ?_
            refine Rc (mv (Od.lit 7)) ?_
            refine Rc (bn (r := .bool false) (Od.loc 2 41) (Od.loc 3 42) (hr := fun w => by have hx9 := HEQ.out; go_simp)) ?_
            exact RgAll.nil
          intro v W9 e1 hΦ _
          replace S := S.mono e1
          have v4 : v 4 = .bool false := hΦ 4 (by decide)
          simp only [layL, Act.put, uAx, u0x, u1x, Nat.reduceAdd]
          rw [v4]
          clear v4 hΦ e1
          refine wpList_nil ?_
          go_upto_region 8 with (fail)
          refine rgs 2 [some 27, some 28] [IsV (.int .i64 ((m : Nat) : Int)), IsV (.int .i64 (((m : Nat) : Int) + 1))] [] ?_ ?_
          · refine Rc (mv (Od.lit 10)) ?_
            refine Rc (bn (r := .int .i64 (((m : Nat) : Int) + 1)) (Od.loc 0 27) Od.con (hr := fun w => by have hx9 := HM1.out; go_simp)) ?_
            exact RgAll.nil
          intro v W10 e1 hΦ _
          replace S := S.mono e1
          have v1 : v 1 = .int .i64 (((m : Nat) : Int) + 1) := hΦ 1 (by decide)
          simp only [layL, Act.put, uAx, u0x, u1x, Nat.reduceAdd]
          rw [v1]
          clear v1 hΦ e1
          refine wpList_step fun K hK => ?_; go_simp; refine hK _ _ ?_; clear hK K
          refine wpList_nil ?_
          have S' := hid S; clear S
          go_wp2_with fail
          go_roundg (gk - 1)
          case measure => have := HG.out; omega
          case rel => exact ⟨m + 1, m, o1, rfl, by rw [Int.natCast_add]; rfl, rfl, by have := HG.out; omega, HG.out.2.2.2, HST.out, S'⟩
        · have HEQ := hid (show (((sq : Nat) : Int) != ((n : Nat) : Int)) = true by rw [bne_iff_ne]; omega)
          obtain ⟨q, hq⟩ : ∃ q, n / m = q := ⟨_, rfl⟩
          have hqm : m * q = n := by have := Nat.div_add_mod n m; rw [hq, hr] at this; omega
          have hq1 : 0 < q ∧ q ≤ n := ⟨by rcases Nat.eq_zero_or_pos q with h | h
                                          · rw [h] at hqm; omega
                                          · exact h, by rw [← hq]; exact Nat.div_le_self _ _⟩
          have HQ := hid (show ((n : Nat) : Int).tdiv ((m : Nat) : Int) = ((q : Nat) : Int) ∧ IntKind.i64.wrap ((q : Nat) : Int) = ((q : Nat) : Int) ∧ ¬ m = 0 from ⟨by rw [Int.tdiv_eq_ediv_of_nonneg (by omega), ← hq]; rfl, wrapC_small (by omega) (by omega), by omega⟩)
          obtain ⟨s2, hs2⟩ : ∃ t, kr z q = t := ⟨_, rfl⟩
          have hb2 := kr_le z q
          rw [hs2] at hb2
          obtain ⟨o2, ho2⟩ : ∃ t, o1 + s2 = t := ⟨_, rfl⟩
          have HO2 := hid (show IntKind.i64.wrap (o1 + s2) = o2 by rw [ho2]; exact wrapC_small (by omega) (by omega))
          have HS2 := hid hs2
          have HQB := hid (show 0 < q ∧ q ≤ 1048576 by omega)
          have HST := hid (show SI (pairF (kr z) n) m = o2 by rw [hstep]; unfold pairF; rw [if_pos ⟨hr, by omega⟩, if_pos (by omega), hs1, hq, hs2]; omega)
          clear he ho2 hs2 hb2 hq hqm hq1 ho1 hb1 hs1 hstep hrl hr hm1 hle hob hmb hsi hsq hnb ho hin hg hmi
          go_upto_region 7 with (fail)
          refine rgs 5 [some 22, some 23, some 24, some 25, some 26] [IsV (.int .i64 ((m : Nat) : Int)), IsV (.int .i64 ((m : Nat) : Int)), IsV (.int .i64 ((sq : Nat) : Int)), IsV (.int .i64 ((n : Nat) : Int)), IsV (.bool true)] [] ?_ ?_
          · refine Rc (mv (Od.lit 10)) ?_
            refine Rc (mv (Od.lit 10)) ?_
            refine Rc (bn (r := .int .i64 ((sq : Nat) : Int)) (Od.loc 0 22) (Od.loc 1 23) (hr := fun w => by have hx9 := HSQ.out; go_simp)) ?_
            refine Rc (mv (Od.lit 7)) ?_
            refine Rc (bn (r := .bool true) (Od.loc 2 24) (Od.loc 3 25) (hr := fun w => by have hx9 := HLE.out.1; have hx8 := HLE.out.2; go_simp)) ?_
            exact RgAll.nil
          intro v W11 e1 hΦ _
          replace S := S.mono e1
          have v4 : v 4 = .bool true := hΦ 4 (by decide)
          simp only [layL, Act.put, uAx, u0x, u1x, Nat.reduceAdd]
          rw [v4]
          clear v4 hΦ e1
          refine wpList_nil ?_
          go_upto_region 9 with (fail)
          refine rgs 4 [some 29, some 30, some 31, some 32] [IsV (.int .i64 ((n : Nat) : Int)), IsV (.int .i64 ((m : Nat) : Int)), IsV (.int .i64 0), IsV (.bool false)] [] ?_ ?_
          · refine Rc (mv (Od.lit 7)) ?_
            refine Rc (mv (Od.lit 10)) ?_
            refine Rc (bn (r := .int .i64 0) (Od.loc 0 29) (Od.loc 1 30) (hr := fun w => by have hx9 := HM.out.1; have hx8 := HM.out.2.1; have hx7 := HM.out.2.2; go_simp)) ?_
            refine Rc (bn (r := .bool false) (Od.loc 2 31) Od.con (hr := fun w => by go_simp)) ?_
            exact RgAll.nil
          intro v W12 e1 hΦ _
          replace S := S.mono e1
          have v3 : v 3 = .bool false := hΦ 3 (by decide)
          simp only [layL, Act.put, uAx, u0x, u1x, Nat.reduceAdd]
          rw [v3]
          clear v3 hΦ e1
          refine wpList_nil ?_
          go_upto_region 10 with (fail)
          refine rg 6 [some 33, some 34, some 35, some 36, some 37, some 38] [IsV (.int .i64 o), IsI k1 z, IsV (.int .i64 ((m : Nat) : Int)), IsI 2 (((m : Nat) : Int)), IsV (.int .i64 s1), IsV (.int .i64 o1)] [] 1 ?_ ?_
          · refine Rc (mv (Od.lit 9)) ?_
            refine Rc (ldI S 1 (w.heap.size) 0 (Od.lit 2) ld_Int) ?_
            refine Rc (mv (Od.lit 10)) ?_
            refine Rc (cl1 (en Tryz.func22) (Od.lc (Φ := IsV (.int .i64 ((m : Nat) : Int))) 2 35) (fun x0 w' hE d0 => by { obtain rfl : x0 = .int .i64 ((m : Nat) : Int) := d0; exact ROf_f _ ((m : Nat) : Int) (by omega) (by have := HG.out; omega) })) ?_
            refine Rc (cl2 (en Tryz.func48) (Od.lc (Φ := IsI k1 z) 1 34) (Od.lc (Φ := IsI 2 (((m : Nat) : Int))) 3 36) (fun x0 x1 w' hE d0 d1 => (by have hh := RKron_f d0 d1 HK.out (by decide) ⟨by have := HG.out; omega, by have := HG.out; omega⟩; rw [HS1.out] at hh; exact hh))) ?_
            refine Rc (bn (r := .int .i64 o1) (Od.loc 0 33) (Od.loc 4 37) (hr := fun w => by have hx9 := HO1.out; go_simp)) ?_
            exact RgAll.nil
          intro v W13 e1 hΦ _
          replace S := S.mono e1
          have v5 : v 5 = .int .i64 o1 := hΦ 5 (by decide)
          simp only [layL, Act.put, uAx, u0x, u1x, Nat.reduceAdd]
          rw [v5]
          clear v5 hΦ e1
          refine wpAny_ready (rs := [6]) (by kernel_rfl) (by simp) (AllReady.cons rfl (fun K hK => ?_) AllReady.nil); go_simp; refine hK _ _ ?_; clear hK K
          refine wpAny_done (by kernel_rfl) ?_ _
          go_upto_region 11 with (fail)
          refine rgs 5 [some 39, some 40, some 41, some 42, some 43] [IsV (.int .i64 ((m : Nat) : Int)), IsV (.int .i64 ((m : Nat) : Int)), IsV (.int .i64 ((sq : Nat) : Int)), IsV (.int .i64 ((n : Nat) : Int)), IsV (.bool true)] [] ?_ ?_
          · refine Rc (mv (Od.lit 10)) ?_
            refine Rc (mv (Od.lit 10)) ?_
            refine Rc (bn (r := .int .i64 ((sq : Nat) : Int)) (Od.loc 0 39) (Od.loc 1 40) (hr := fun w => by have hx9 := HSQ.out; go_simp)) ?_
            refine Rc (mv (Od.lit 7)) ?_
            refine Rc (bn (r := .bool true) (Od.loc 2 41) (Od.loc 3 42) (hr := fun w => by have hx9 := HEQ.out; go_simp)) ?_
            exact RgAll.nil
          intro v W14 e1 hΦ _
          replace S := S.mono e1
          have v4 : v 4 = .bool true := hΦ 4 (by decide)
          simp only [layL, Act.put, uAx, u0x, u1x, Nat.reduceAdd]
          rw [v4]
          clear v4 hΦ e1
          refine wpList_nil ?_
          go_upto_region 12 with (fail)
          refine rg 8 [some 44, some 45, some 46, some 47, some 48, some 49, some 50, some 51] [IsV (.int .i64 o1), IsI k1 z, IsV (.int .i64 ((n : Nat) : Int)), IsV (.int .i64 ((m : Nat) : Int)), IsV (.int .i64 ((q : Nat) : Int)), IsI 2 (((q : Nat) : Int)), IsV (.int .i64 s2), IsV (.int .i64 o2)] [] 1 ?_ ?_
          · refine Rc (mv (Od.lit 9)) ?_
            refine Rc (ldI S 1 (w.heap.size) 0 (Od.lit 2) ld_Int) ?_
            refine Rc (mv (Od.lit 7)) ?_
            refine Rc (mv (Od.lit 10)) ?_
            refine Rc (bn (r := .int .i64 ((q : Nat) : Int)) (Od.loc 2 46) (Od.loc 3 47) (hr := fun w => by have hx9 := HQ.out.1; have hx8 := HQ.out.2.1; have hx7 := HQ.out.2.2; go_simp)) ?_
            refine Rc (cl1 (en Tryz.func22) (Od.lc (Φ := IsV (.int .i64 ((q : Nat) : Int))) 4 48) (fun x0 w' hE d0 => by { obtain rfl : x0 = .int .i64 ((q : Nat) : Int) := d0; exact ROf_f _ ((q : Nat) : Int) (by omega) (by have := HQB.out; omega) })) ?_
            refine Rc (cl2 (en Tryz.func48) (Od.lc (Φ := IsI k1 z) 1 45) (Od.lc (Φ := IsI 2 (((q : Nat) : Int))) 5 49) (fun x0 x1 w' hE d0 d1 => (by have hh := RKron_f d0 d1 HK.out (by decide) ⟨by have := HQB.out; omega, by have := HQB.out; omega⟩; rw [HS2.out] at hh; exact hh))) ?_
            refine Rc (bn (r := .int .i64 o2) (Od.loc 0 44) (Od.loc 6 50) (hr := fun w => by have hx9 := HO2.out; go_simp)) ?_
            exact RgAll.nil
          intro v W15 e1 hΦ _
          replace S := S.mono e1
          have v7 : v 7 = .int .i64 o2 := hΦ 7 (by decide)
          simp only [layL, Act.put, uAx, u0x, u1x, Nat.reduceAdd]
          rw [v7]
          clear v7 hΦ e1
          refine wpAny_ready (rs := [8]) (by kernel_rfl) (by simp) (AllReady.cons rfl (fun K hK => ?_) AllReady.nil); go_simp; refine hK _ _ ?_; clear hK K
          refine wpAny_done (by kernel_rfl) ?_ _
          go_upto_region 8 with (fail)
          refine rgs 2 [some 27, some 28] [IsV (.int .i64 ((m : Nat) : Int)), IsV (.int .i64 (((m : Nat) : Int) + 1))] [] ?_ ?_
          · refine Rc (mv (Od.lit 10)) ?_
            refine Rc (bn (r := .int .i64 (((m : Nat) : Int) + 1)) (Od.loc 0 27) Od.con (hr := fun w => by have hx9 := HM1.out; go_simp)) ?_
            exact RgAll.nil
          intro v W16 e1 hΦ _
          replace S := S.mono e1
          have v1 : v 1 = .int .i64 (((m : Nat) : Int) + 1) := hΦ 1 (by decide)
          simp only [layL, Act.put, uAx, u0x, u1x, Nat.reduceAdd]
          rw [v1]
          clear v1 hΦ e1
          refine wpList_step fun K hK => ?_; go_simp; refine hK _ _ ?_; clear hK K
          refine wpList_nil ?_
          have S' := hid S; clear S
          go_wp2_with fail
          go_roundg (gk - 1)
          case measure => have := HG.out; omega
          case rel => exact ⟨m + 1, m, o2, rfl, by rw [Int.natCast_add]; rfl, rfl, by have := HG.out; omega, HG.out.2.2.2, HST.out, S'⟩
      · have HNE := hid (show ((((r : Nat) : Int)) != 0) = true by rw [bne_iff_ne]; omega)
        have HST := hid (show SI (pairF (kr z) n) m = o by rw [hstep]; unfold pairF; rw [if_neg (fun h => by omega)]; omega)
        clear h0 hb1 hs1 hstep hrl hr hm1 hle hob hmb hsi hsq hnb ho hin hg hmi
        go_upto_region 7 with (fail)
        refine rgs 5 [some 22, some 23, some 24, some 25, some 26] [IsV (.int .i64 ((m : Nat) : Int)), IsV (.int .i64 ((m : Nat) : Int)), IsV (.int .i64 ((sq : Nat) : Int)), IsV (.int .i64 ((n : Nat) : Int)), IsV (.bool true)] [] ?_ ?_
        · refine Rc (mv (Od.lit 10)) ?_
          refine Rc (mv (Od.lit 10)) ?_
          refine Rc (bn (r := .int .i64 ((sq : Nat) : Int)) (Od.loc 0 22) (Od.loc 1 23) (hr := fun w => by have hx9 := HSQ.out; go_simp)) ?_
          refine Rc (mv (Od.lit 7)) ?_
          refine Rc (bn (r := .bool true) (Od.loc 2 24) (Od.loc 3 25) (hr := fun w => by have hx9 := HLE.out.1; have hx8 := HLE.out.2; go_simp)) ?_
          exact RgAll.nil
        intro v W17 e1 hΦ _
        replace S := S.mono e1
        have v4 : v 4 = .bool true := hΦ 4 (by decide)
        simp only [layL, Act.put, uAx, u0x, u1x, Nat.reduceAdd]
        rw [v4]
        clear v4 hΦ e1
        refine wpList_nil ?_
        go_upto_region 9 with (fail)
        refine rgs 4 [some 29, some 30, some 31, some 32] [IsV (.int .i64 ((n : Nat) : Int)), IsV (.int .i64 ((m : Nat) : Int)), IsV (.int .i64 ((r : Nat) : Int)), IsV (.bool true)] [] ?_ ?_
        · refine Rc (mv (Od.lit 7)) ?_
          refine Rc (mv (Od.lit 10)) ?_
          refine Rc (bn (r := .int .i64 ((r : Nat) : Int)) (Od.loc 0 29) (Od.loc 1 30) (hr := fun w => by have hx9 := HM.out.1; have hx8 := HM.out.2.1; have hx7 := HM.out.2.2; go_simp)) ?_
          refine Rc (bn (r := .bool true) (Od.loc 2 31) Od.con (hr := fun w => by have hx9 := HNE.out; go_simp)) ?_
          exact RgAll.nil
        intro v W18 e1 hΦ _
        replace S := S.mono e1
        have v3 : v 3 = .bool true := hΦ 3 (by decide)
        simp only [layL, Act.put, uAx, u0x, u1x, Nat.reduceAdd]
        rw [v3]
        clear v3 hΦ e1
        refine wpList_nil ?_
        go_upto_region 8 with (fail)
        refine rgs 2 [some 27, some 28] [IsV (.int .i64 ((m : Nat) : Int)), IsV (.int .i64 (((m : Nat) : Int) + 1))] [] ?_ ?_
        · refine Rc (mv (Od.lit 10)) ?_
          refine Rc (bn (r := .int .i64 (((m : Nat) : Int) + 1)) (Od.loc 0 27) Od.con (hr := fun w => by have hx9 := HM1.out; go_simp)) ?_
          exact RgAll.nil
        intro v W19 e1 hΦ _
        replace S := S.mono e1
        have v1 : v 1 = .int .i64 (((m : Nat) : Int) + 1) := hΦ 1 (by decide)
        simp only [layL, Act.put, uAx, u0x, u1x, Nat.reduceAdd]
        rw [v1]
        clear v1 hΦ e1
        refine wpList_step fun K hK => ?_; go_simp; refine hK _ _ ?_; clear hK K
        refine wpList_nil ?_
        have S' := hid S; clear S
        go_wp2_with fail
        go_roundg (gk - 1)
        case measure => have := HG.out; omega
        case rel => exact ⟨m + 1, m, o, rfl, by rw [Int.natCast_add]; rfl, rfl, by have := HG.out; omega, HG.out.2.2.2, HST.out, S'⟩
    · have hst : o = totP (locg (kr z)) n := by rw [← ho, pair_stop (by rw [← hmi, hsq]; omega) hin, pair_sum (kr_le z) (by omega), dS_tot (kr_Mu z (kr_one z)) n n (by omega) (Nat.le_refl _)]
      have HTV := hid (show IntKind.i64.wrap (unitZ z * o) = tv by rw [hst]; exact HT.out)
      have HLE := hid (show ¬ ((sq : Nat) : Int) ≤ ((n : Nat) : Int) ∧ ¬ sq ≤ n by omega)
      clear hst hle hob hmb hsi hsq hnb ho hin hg hmi
      go_upto_region 7 with (fail)
      refine rgs 5 [some 22, some 23, some 24, some 25, some 26] [IsV (.int .i64 ((m : Nat) : Int)), IsV (.int .i64 ((m : Nat) : Int)), IsV (.int .i64 ((sq : Nat) : Int)), IsV (.int .i64 ((n : Nat) : Int)), IsV (.bool false)] [] ?_ ?_
      · refine Rc (mv (Od.lit 10)) ?_
        refine Rc (mv (Od.lit 10)) ?_
        refine Rc (bn (r := .int .i64 ((sq : Nat) : Int)) (Od.loc 0 22) (Od.loc 1 23) (hr := fun w => by have hx9 := HSQ.out; go_simp)) ?_
        refine Rc (mv (Od.lit 7)) ?_
        refine Rc (bn (r := .bool false) (Od.loc 2 24) (Od.loc 3 25) (hr := fun w => by have hx9 := HLE.out.1; have hx8 := HLE.out.2; go_simp)) ?_
        exact RgAll.nil
      intro v W20 e1 hΦ _
      replace S := S.mono e1
      have v4 : v 4 = .bool false := hΦ 4 (by decide)
      simp only [layL, Act.put, uAx, u0x, u1x, Nat.reduceAdd]
      rw [v4]
      clear v4 hΦ e1
      refine wpList_nil ?_
      go_upto_region 13 with (fail)
      refine rgs 6 [some 52, some 53, some 54, some 55, some 4, some 5] [IsI k1 z, IsV (.int .i64 (unitZ z)), IsV (.int .i64 o), IsV (.int .i64 tv), IsV (.int .i64 tv), IsV (.int .i64 0)] [] ?_ ?_
      · refine Rc (ldI S 1 (w.heap.size) 0 (Od.lit 2) ld_Int) ?_
        refine Rc (cl1 (en Tryz.func49) (Od.lc (Φ := IsI k1 z) 0 52) (fun x0 w' hE d0 => Units_f d0 HK1.out)) ?_
        refine Rc (mv (Od.lit 9)) ?_
        refine Rc (bn (r := .int .i64 tv) (Od.loc 1 53) (Od.loc 2 54) (hr := fun w => by have hx9 := HTV.out; go_simp)) ?_
        refine Rc (mv (Od.lc 3 55)) ?_
        refine Rc (mv Od.con) ?_
        exact RgAll.nil
      intro v W21 e1 hΦ _
      replace S := S.mono e1
      have v4 : v 4 = .int .i64 tv := hΦ 4 (by decide)
      have v5 : v 5 = .int .i64 0 := hΦ 5 (by decide)
      simp only [layL, Act.put, uAx, u0x, u1x, Nat.reduceAdd]
      rw [v4, v5]
      clear v4 v5 hΦ e1
      refine wpList_nil ?_
      go_wp2_with fail
      exact bodyPost_ret (v := .tuple #[.int .i64 tv, .int .i64 0]) (by simp [results, Tryz.results13, go_sem]) rfl (⟨_, rfl, S.ext, _, _, rfl, rfl, rfl⟩)

set_option maxRecDepth 100000 in
set_option maxHeartbeats 16000000 in
theorem rLocal_e {k1 k2 : Nat} {z z2 : Int} {x y : Value} {w : World} (hx : IsI k1 z x w) (hy : IsI k2 z2 y w) (p : Int) (ue : Int) (HRF : Hid (∀ (x y : Value) (w : World), IsI k1 z x w → IsI k2 z2 y w → Calls Tryz.prog 23 #[x, y] w (Ret w (IsV (.int .i64 ue))))) (HUB : Hid ((ue != 0) = true)) : Calls Tryz.prog 11 #[x, y, .int .i64 p] w (Ret w (IsT2 (IsV (.int .i64 0)) (IsV (.int .i64 ue)))) := by
  obtain ⟨s1, a1, n1, c1, rfl, h1⟩ := hx
  have h1 : IsI _ _ _ w := ⟨_, _, _, _, rfl, h1⟩
  obtain ⟨s2, a2, n2, c2, rfl, h2⟩ := hy
  have h2 : IsI _ _ _ w := ⟨_, _, _, _, rfl, h2⟩
  obtain ⟨W, hW, S⟩ : ∃ W, W = (w.alloc (.cells #[.bool s1, .slice a1 n1 c1] 33)).alloc (.cells #[.bool s2, .slice a2 n2 c2] 33) ∧ Sto w W [((w.heap.size + 1, 0), IsI k2 z2), ((w.heap.size, 0), IsI k1 z)] := ⟨_, rfl, (((Sto.start w).new1 (w.heap.size) (by simp) s1 a1 n1 c1 33 (IsI k1 z) (IsI.gstb _ _) (h1)).new1 (w.heap.size + 1) (by simp) s2 a2 n2 c2 33 (IsI k2 z2) (IsI.gstb _ _) (h2.ext ((Ext.refl _).alloc _)))⟩
  clear h1 h2
  go_enter Tryz.func11, Tryz.ntmps11
  go_upto_region 1 with (fail)
  rw [← hW]
  clear hW
  refine rgs 4 [some 9, some 10, some 11, some 8] [IsI k1 z, IsI k2 z2, IsV (.int .i64 ue), IsV (.int .i64 ue)] [] ?_ ?_
  · refine Rc (ldI S 1 (w.heap.size) 0 (Od.lit 3) ld_Int) ?_
    refine Rc (ldI S 0 (w.heap.size + 1) 0 (Od.lit 4) ld_Int) ?_
    refine Rc (cl2 (en Tryz.func23) (Od.lc (Φ := IsI k1 z) 0 9) (Od.lc (Φ := IsI k2 z2) 1 10) (fun x0 x1 w' hE d0 d1 => HRF.out _ _ _ d0 d1)) ?_
    refine Rc (mv (Od.lc 2 11)) ?_
    exact RgAll.nil
  intro v W1 e1 hΦ _
  replace S := S.mono e1
  have v3 : v 3 = .int .i64 ue := hΦ 3 (by decide)
  simp only [layL, Act.put, uAx, u0x, u1x, Nat.reduceAdd]
  rw [v3]
  clear v3 hΦ e1
  refine wpList_nil ?_
  go_upto_region 2 with (fail)
  refine rgs 2 [some 12, some 13] [IsV (.int .i64 ue), IsV (.bool true)] [] ?_ ?_
  · refine Rc (mv (Od.lit 8)) ?_
    refine Rc (bn (r := .bool true) (Od.loc 0 12) Od.con (hr := fun w => by have hx9 := HUB.out; go_simp)) ?_
    exact RgAll.nil
  intro v W2 e1 hΦ _
  replace S := S.mono e1
  have v1 : v 1 = .bool true := hΦ 1 (by decide)
  simp only [layL, Act.put, uAx, u0x, u1x, Nat.reduceAdd]
  rw [v1]
  clear v1 hΦ e1
  refine wpList_nil ?_
  go_upto_region 3 with (fail)
  refine rgs 3 [some 14, some 6, some 7] [IsV (.int .i64 ue), IsV (.int .i64 0), IsV (.int .i64 ue)] [] ?_ ?_
  · refine Rc (mv (Od.lit 8)) ?_
    refine Rc (mv Od.con) ?_
    refine Rc (mv (Od.lc 0 14)) ?_
    exact RgAll.nil
  intro v W3 e1 hΦ _
  replace S := S.mono e1
  have v1 : v 1 = .int .i64 0 := hΦ 1 (by decide)
  have v2 : v 2 = .int .i64 ue := hΦ 2 (by decide)
  simp only [layL, Act.put, uAx, u0x, u1x, Nat.reduceAdd]
  rw [v1, v2]
  clear v1 v2 hΦ e1
  refine wpList_nil ?_
  go_wp2_with fail
  exact bodyPost_ret (v := .tuple #[.int .i64 0, .int .i64 ue]) (by simp [results, Tryz.results11, go_sem]) rfl (⟨_, rfl, S.ext, _, _, rfl, rfl, rfl⟩)

set_option maxRecDepth 100000 in
set_option maxHeartbeats 16000000 in
theorem rLocal_big {k1 k2 : Nat} {z z2 : Int} {x y : Value} {w : World} (hx : IsI k1 z x w) (hy : IsI k2 z2 y w) (p : Int) (HRF : Hid (∀ (x y : Value) (w : World), IsI k1 z x w → IsI k2 z2 y w → Calls Tryz.prog 23 #[x, y] w (Ret w (IsV (.int .i64 0))))) (HGE : Hid (1048576 ≤ p)) : Calls Tryz.prog 11 #[x, y, .int .i64 p] w (Ret w (IsT2 (IsV (.int .i64 0)) (IsV (.int .i64 7)))) := by
  obtain ⟨s1, a1, n1, c1, rfl, h1⟩ := hx
  have h1 : IsI _ _ _ w := ⟨_, _, _, _, rfl, h1⟩
  obtain ⟨s2, a2, n2, c2, rfl, h2⟩ := hy
  have h2 : IsI _ _ _ w := ⟨_, _, _, _, rfl, h2⟩
  obtain ⟨W, hW, S⟩ : ∃ W, W = (w.alloc (.cells #[.bool s1, .slice a1 n1 c1] 33)).alloc (.cells #[.bool s2, .slice a2 n2 c2] 33) ∧ Sto w W [((w.heap.size + 1, 0), IsI k2 z2), ((w.heap.size, 0), IsI k1 z)] := ⟨_, rfl, (((Sto.start w).new1 (w.heap.size) (by simp) s1 a1 n1 c1 33 (IsI k1 z) (IsI.gstb _ _) (h1)).new1 (w.heap.size + 1) (by simp) s2 a2 n2 c2 33 (IsI k2 z2) (IsI.gstb _ _) (h2.ext ((Ext.refl _).alloc _)))⟩
  clear h1 h2
  go_enter Tryz.func11, Tryz.ntmps11
  go_upto_region 1 with (fail)
  rw [← hW]
  clear hW
  refine rgs 4 [some 9, some 10, some 11, some 8] [IsI k1 z, IsI k2 z2, IsV (.int .i64 0), IsV (.int .i64 0)] [] ?_ ?_
  · refine Rc (ldI S 1 (w.heap.size) 0 (Od.lit 3) ld_Int) ?_
    refine Rc (ldI S 0 (w.heap.size + 1) 0 (Od.lit 4) ld_Int) ?_
    refine Rc (cl2 (en Tryz.func23) (Od.lc (Φ := IsI k1 z) 0 9) (Od.lc (Φ := IsI k2 z2) 1 10) (fun x0 x1 w' hE d0 d1 => HRF.out _ _ _ d0 d1)) ?_
    refine Rc (mv (Od.lc 2 11)) ?_
    exact RgAll.nil
  intro v W1 e1 hΦ _
  replace S := S.mono e1
  have v3 : v 3 = .int .i64 0 := hΦ 3 (by decide)
  simp only [layL, Act.put, uAx, u0x, u1x, Nat.reduceAdd]
  rw [v3]
  clear v3 hΦ e1
  refine wpList_nil ?_
  go_upto_region 2 with (fail)
  refine rgs 2 [some 12, some 13] [IsV (.int .i64 0), IsV (.bool false)] [] ?_ ?_
  · refine Rc (mv (Od.lit 8)) ?_
    refine Rc (bn (r := .bool false) (Od.loc 0 12) Od.con (hr := fun w => by go_simp)) ?_
    exact RgAll.nil
  intro v W2 e1 hΦ _
  replace S := S.mono e1
  have v1 : v 1 = .bool false := hΦ 1 (by decide)
  simp only [layL, Act.put, uAx, u0x, u1x, Nat.reduceAdd]
  rw [v1]
  clear v1 hΦ e1
  refine wpList_nil ?_
  go_upto_region 4 with (fail)
  refine rgs 7 [some 15, some 16, some 17, some 18, some 19, some 20, some 21] [IsV (.int .i64 p), IsV (.bool true), IsV (.bool true), IsV (undef), IsV (undef), IsV (undef), IsV (.bool true)] [] ?_ ?_
  · refine Rc (mv (Od.lit 2)) ?_
    refine Rc (bn (r := .bool true) (Od.loc 0 15) Od.con (hr := fun w => by have hx9 := HGE.out; go_simp)) ?_
    refine Rc (mv (Od.lc 1 16)) ?_
    refine RcN 2 17 true ?_
    refine RcN 2 17 true ?_
    refine RcN 2 17 true ?_
    refine Rc (pk (Od.loc 2 17) Od.con) ?_
    exact RgAll.nil
  intro v W3 e1 hΦ _
  replace S := S.mono e1
  have v6 : v 6 = .bool true := hΦ 6 (by decide)
  simp only [layL, Act.put, uAx, u0x, u1x, Nat.reduceAdd]
  rw [v6]
  clear v6 hΦ e1
  refine wpList_nil ?_
  go_upto_region 5 with (fail)
  refine rgs 2 [some 6, some 7] [IsV (.int .i64 0), IsV (.int .i64 7)] [] ?_ ?_
  · refine Rc (mv Od.con) ?_
    refine Rc (mv Od.con) ?_
    exact RgAll.nil
  intro v W4 e1 hΦ _
  replace S := S.mono e1
  have v0 : v 0 = .int .i64 0 := hΦ 0 (by decide)
  have v1 : v 1 = .int .i64 7 := hΦ 1 (by decide)
  simp only [layL, Act.put, uAx, u0x, u1x, Nat.reduceAdd]
  rw [v0, v1]
  clear v0 v1 hΦ e1
  refine wpList_nil ?_
  go_wp2_with fail
  exact bodyPost_ret (v := .tuple #[.int .i64 0, .int .i64 7]) (by simp [results, Tryz.results11, go_sem]) rfl (⟨_, rfl, S.ext, _, _, rfl, rfl, rfl⟩)

set_option maxRecDepth 100000 in
set_option maxHeartbeats 16000000 in
theorem rLocal_no {k1 k2 : Nat} {z z2 : Int} {x y : Value} {w : World} (hx : IsI k1 z x w) (hy : IsI k2 z2 y w) (p : Int) (HRF : Hid (∀ (x y : Value) (w : World), IsI k1 z x w → IsI k2 z2 y w → Calls Tryz.prog 23 #[x, y] w (Ret w (IsV (.int .i64 0))))) (HGE : Hid (¬ 1048576 ≤ p)) (HPB : Hid (-9223372036854775808 ≤ p ∧ p ≤ 1048576)) (HPR : Hid (false = true ↔ 2 ≤ p ∧ Pr p.toNat)) : Calls Tryz.prog 11 #[x, y, .int .i64 p] w (Ret w (IsT2 (IsV (.int .i64 0)) (IsV (.int .i64 7)))) := by
  obtain ⟨s1, a1, n1, c1, rfl, h1⟩ := hx
  have h1 : IsI _ _ _ w := ⟨_, _, _, _, rfl, h1⟩
  obtain ⟨s2, a2, n2, c2, rfl, h2⟩ := hy
  have h2 : IsI _ _ _ w := ⟨_, _, _, _, rfl, h2⟩
  obtain ⟨W, hW, S⟩ : ∃ W, W = (w.alloc (.cells #[.bool s1, .slice a1 n1 c1] 33)).alloc (.cells #[.bool s2, .slice a2 n2 c2] 33) ∧ Sto w W [((w.heap.size + 1, 0), IsI k2 z2), ((w.heap.size, 0), IsI k1 z)] := ⟨_, rfl, (((Sto.start w).new1 (w.heap.size) (by simp) s1 a1 n1 c1 33 (IsI k1 z) (IsI.gstb _ _) (h1)).new1 (w.heap.size + 1) (by simp) s2 a2 n2 c2 33 (IsI k2 z2) (IsI.gstb _ _) (h2.ext ((Ext.refl _).alloc _)))⟩
  clear h1 h2
  go_enter Tryz.func11, Tryz.ntmps11
  go_upto_region 1 with (fail)
  rw [← hW]
  clear hW
  refine rgs 4 [some 9, some 10, some 11, some 8] [IsI k1 z, IsI k2 z2, IsV (.int .i64 0), IsV (.int .i64 0)] [] ?_ ?_
  · refine Rc (ldI S 1 (w.heap.size) 0 (Od.lit 3) ld_Int) ?_
    refine Rc (ldI S 0 (w.heap.size + 1) 0 (Od.lit 4) ld_Int) ?_
    refine Rc (cl2 (en Tryz.func23) (Od.lc (Φ := IsI k1 z) 0 9) (Od.lc (Φ := IsI k2 z2) 1 10) (fun x0 x1 w' hE d0 d1 => HRF.out _ _ _ d0 d1)) ?_
    refine Rc (mv (Od.lc 2 11)) ?_
    exact RgAll.nil
  intro v W1 e1 hΦ _
  replace S := S.mono e1
  have v3 : v 3 = .int .i64 0 := hΦ 3 (by decide)
  simp only [layL, Act.put, uAx, u0x, u1x, Nat.reduceAdd]
  rw [v3]
  clear v3 hΦ e1
  refine wpList_nil ?_
  go_upto_region 2 with (fail)
  refine rgs 2 [some 12, some 13] [IsV (.int .i64 0), IsV (.bool false)] [] ?_ ?_
  · refine Rc (mv (Od.lit 8)) ?_
    refine Rc (bn (r := .bool false) (Od.loc 0 12) Od.con (hr := fun w => by go_simp)) ?_
    exact RgAll.nil
  intro v W2 e1 hΦ _
  replace S := S.mono e1
  have v1 : v 1 = .bool false := hΦ 1 (by decide)
  simp only [layL, Act.put, uAx, u0x, u1x, Nat.reduceAdd]
  rw [v1]
  clear v1 hΦ e1
  refine wpList_nil ?_
  go_upto_region 4 with (fail)
  refine rgs 7 [some 15, some 16, some 17, some 18, some 19, some 20, some 21] [IsV (.int .i64 p), IsV (.bool false), IsV (.bool false), IsV (.int .i64 p), IsV (.bool false), IsV (.bool true), IsV (.bool true)] [] ?_ ?_
  · refine Rc (mv (Od.lit 2)) ?_
    refine Rc (bn (r := .bool false) (Od.loc 0 15) Od.con (hr := fun w => by have hx9 := HGE.out; go_simp)) ?_
    refine Rc (mv (Od.lc 1 16)) ?_
    refine RcG 2 17 false (mv (Od.lit 2)) ?_
    refine RcG 2 17 false (cl1 (en Tryz.func45) (Od.lc (Φ := IsV (.int .i64 p)) 3 18) (fun x0 w' hE d0 => by { obtain rfl : x0 = .int .i64 p := d0; exact rprime_f w' _ HPB.out false HPR.out })) ?_
    refine RcG 2 17 false (nt (Od.loc 4 19)) ?_
    refine Rc (pk (Od.loc 2 17) (Od.lc 5 20)) ?_
    exact RgAll.nil
  intro v W3 e1 hΦ _
  replace S := S.mono e1
  have v6 : v 6 = .bool true := hΦ 6 (by decide)
  simp only [layL, Act.put, uAx, u0x, u1x, Nat.reduceAdd]
  rw [v6]
  clear v6 hΦ e1
  refine wpList_nil ?_
  go_upto_region 5 with (fail)
  refine rgs 2 [some 6, some 7] [IsV (.int .i64 0), IsV (.int .i64 7)] [] ?_ ?_
  · refine Rc (mv Od.con) ?_
    refine Rc (mv Od.con) ?_
    exact RgAll.nil
  intro v W4 e1 hΦ _
  replace S := S.mono e1
  have v0 : v 0 = .int .i64 0 := hΦ 0 (by decide)
  have v1 : v 1 = .int .i64 7 := hΦ 1 (by decide)
  simp only [layL, Act.put, uAx, u0x, u1x, Nat.reduceAdd]
  rw [v0, v1]
  clear v0 v1 hΦ e1
  refine wpList_nil ?_
  go_wp2_with fail
  exact bodyPost_ret (v := .tuple #[.int .i64 0, .int .i64 7]) (by simp [results, Tryz.results11, go_sem]) rfl (⟨_, rfl, S.ext, _, _, rfl, rfl, rfl⟩)

set_option maxRecDepth 100000 in
set_option maxHeartbeats 16000000 in
theorem rLocal_k {k1 k2 n p : Nat} {z s : Int} {x y : Value} {w : World} (hx : IsI k1 z x w) (hy : IsI k2 ((n : Nat) : Int) y w) (HK : Hid (k1 ≤ 67108864)) (HNB : Hid (0 < n ∧ n < 4294967296)) (HP2 : Hid (2 ≤ p ∧ p ≤ 4611686018427387904)) (HCH : Hid (kr z p = s)) (HSB : Hid (-1 ≤ s ∧ s ≤ 1)) (HRF : Hid (∀ (x y : Value) (w : World), IsI k1 z x w → IsI k2 ((n : Nat) : Int) y w → Calls Tryz.prog 23 #[x, y] w (Ret w (IsV (.int .i64 0))))) (HGE : Hid (¬ 1048576 ≤ ((p : Nat) : Int))) (HPB : Hid (-9223372036854775808 ≤ ((p : Nat) : Int) ∧ ((p : Nat) : Int) ≤ 1048576)) (HPR : Hid (true = true ↔ 2 ≤ ((p : Nat) : Int) ∧ Pr ((p : Nat) : Int).toNat)) : Calls Tryz.prog 11 #[x, y, .int .i64 ((p : Nat) : Int)] w (Ret w (IsT2 (IsV (.int .i64 (locg (fun _ => s) p (vl p n)))) (IsV (.int .i64 0)))) := by
  obtain ⟨s1, a1, n1, c1, rfl, h1⟩ := hx
  have h1 : IsI _ _ _ w := ⟨_, _, _, _, rfl, h1⟩
  obtain ⟨s2, a2, n2, c2, rfl, h2⟩ := hy
  have h2 : IsI _ _ _ w := ⟨_, _, _, _, rfl, h2⟩
  obtain ⟨W, hW, S⟩ : ∃ W, W = (w.alloc (.cells #[.bool s1, .slice a1 n1 c1] 33)).alloc (.cells #[.bool s2, .slice a2 n2 c2] 33) ∧ Sto w W [((w.heap.size + 1, 0), IsI k2 (((n : Nat) : Int))), ((w.heap.size, 0), IsI k1 z)] := ⟨_, rfl, (((Sto.start w).new1 (w.heap.size) (by simp) s1 a1 n1 c1 33 (IsI k1 z) (IsI.gstb _ _) (h1)).new1 (w.heap.size + 1) (by simp) s2 a2 n2 c2 33 (IsI k2 (((n : Nat) : Int))) (IsI.gstb _ _) (h2.ext ((Ext.refl _).alloc _)))⟩
  clear h1 h2
  go_enter Tryz.func11, Tryz.ntmps11
  go_upto_region 1 with (fail)
  rw [← hW]
  clear hW
  refine rgs 4 [some 9, some 10, some 11, some 8] [IsI k1 z, IsI k2 (((n : Nat) : Int)), IsV (.int .i64 0), IsV (.int .i64 0)] [] ?_ ?_
  · refine Rc (ldI S 1 (w.heap.size) 0 (Od.lit 3) ld_Int) ?_
    refine Rc (ldI S 0 (w.heap.size + 1) 0 (Od.lit 4) ld_Int) ?_
    refine Rc (cl2 (en Tryz.func23) (Od.lc (Φ := IsI k1 z) 0 9) (Od.lc (Φ := IsI k2 (((n : Nat) : Int))) 1 10) (fun x0 x1 w' hE d0 d1 => HRF.out _ _ _ d0 d1)) ?_
    refine Rc (mv (Od.lc 2 11)) ?_
    exact RgAll.nil
  intro v W1 e1 hΦ _
  replace S := S.mono e1
  have v3 : v 3 = .int .i64 0 := hΦ 3 (by decide)
  simp only [layL, Act.put, uAx, u0x, u1x, Nat.reduceAdd]
  rw [v3]
  clear v3 hΦ e1
  refine wpList_nil ?_
  go_upto_region 2 with (fail)
  refine rgs 2 [some 12, some 13] [IsV (.int .i64 0), IsV (.bool false)] [] ?_ ?_
  · refine Rc (mv (Od.lit 8)) ?_
    refine Rc (bn (r := .bool false) (Od.loc 0 12) Od.con (hr := fun w => by go_simp)) ?_
    exact RgAll.nil
  intro v W2 e1 hΦ _
  replace S := S.mono e1
  have v1 : v 1 = .bool false := hΦ 1 (by decide)
  simp only [layL, Act.put, uAx, u0x, u1x, Nat.reduceAdd]
  rw [v1]
  clear v1 hΦ e1
  refine wpList_nil ?_
  go_upto_region 4 with (fail)
  refine rgs 7 [some 15, some 16, some 17, some 18, some 19, some 20, some 21] [IsV (.int .i64 ((p : Nat) : Int)), IsV (.bool false), IsV (.bool false), IsV (.int .i64 ((p : Nat) : Int)), IsV (.bool true), IsV (.bool false), IsV (.bool false)] [] ?_ ?_
  · refine Rc (mv (Od.lit 2)) ?_
    refine Rc (bn (r := .bool false) (Od.loc 0 15) Od.con (hr := fun w => by have hx9 := HGE.out; go_simp)) ?_
    refine Rc (mv (Od.lc 1 16)) ?_
    refine RcG 2 17 false (mv (Od.lit 2)) ?_
    refine RcG 2 17 false (cl1 (en Tryz.func45) (Od.lc (Φ := IsV (.int .i64 ((p : Nat) : Int))) 3 18) (fun x0 w' hE d0 => by { obtain rfl : x0 = .int .i64 ((p : Nat) : Int) := d0; exact rprime_f w' _ HPB.out true HPR.out })) ?_
    refine RcG 2 17 false (nt (Od.loc 4 19)) ?_
    refine Rc (pk (Od.loc 2 17) (Od.lc 5 20)) ?_
    exact RgAll.nil
  intro v W3 e1 hΦ _
  replace S := S.mono e1
  have v6 : v 6 = .bool false := hΦ 6 (by decide)
  simp only [layL, Act.put, uAx, u0x, u1x, Nat.reduceAdd]
  rw [v6]
  clear v6 hΦ e1
  refine wpList_nil ?_
  go_upto_region 6 with (fail)
  refine rgs 6 [some 22, some 23, some 24, some 25, some 6, some 7] [IsI k1 z, IsI k2 (((n : Nat) : Int)), IsV (.int .i64 ((p : Nat) : Int)), IsV (.int .i64 (locg (fun _ => s) p (vl p n))), IsV (.int .i64 (locg (fun _ => s) p (vl p n))), IsV (.int .i64 0)] [] ?_ ?_
  · refine Rc (ldI S 1 (w.heap.size) 0 (Od.lit 3) ld_Int) ?_
    refine Rc (ldI S 0 (w.heap.size + 1) 0 (Od.lit 4) ld_Int) ?_
    refine Rc (mv (Od.lit 2)) ?_
    refine Rc (cl3 (en Tryz.func46) (Od.lc (Φ := IsI k1 z) 0 22) (Od.lc (Φ := IsI k2 (((n : Nat) : Int))) 1 23) (Od.lc (Φ := IsV (.int .i64 ((p : Nat) : Int))) 2 24) (fun x0 x1 x2 w' hE d0 d1 d2 => by { obtain rfl : x2 = .int .i64 ((p : Nat) : Int) := d2; exact rfactor_a d0 d1 HK HNB HP2 HCH HSB })) ?_
    refine Rc (mv (Od.lc 3 25)) ?_
    refine Rc (mv Od.con) ?_
    exact RgAll.nil
  intro v W4 e1 hΦ _
  replace S := S.mono e1
  have v4 : v 4 = .int .i64 (locg (fun _ => s) p (vl p n)) := hΦ 4 (by decide)
  have v5 : v 5 = .int .i64 0 := hΦ 5 (by decide)
  simp only [layL, Act.put, uAx, u0x, u1x, Nat.reduceAdd]
  rw [v4, v5]
  clear v4 v5 hΦ e1
  refine wpList_nil ?_
  go_wp2_with fail
  exact bodyPost_ret (v := .tuple #[.int .i64 (locg (fun _ => s) p (vl p n)), .int .i64 0]) (by simp [results, Tryz.results11, go_sem]) rfl (⟨_, rfl, S.ext, _, _, rfl, rfl, rfl⟩)

end Go.Proofs.YtknffgdbdadpcaaGreatDoor
