import Derived.Test.YtknlaadcbhhbfaaGreatDoorProd
import Derived.Test.YtknlaadcbhhbfaaGreatDoorLow
namespace Go.Proofs.YtknlaadcbhhbfaaGreatDoor
open Go Go.RowKit
theorem rootP_ex : ∀ n : Nat, ∃ L, L * L ≤ n ∧ n < (L + 1) * (L + 1)
 | 0 => ⟨0, by decide, by decide⟩
 | n + 1 => by
  obtain ⟨L, h1, h2⟩ := rootP_ex n
  by_cases h : n + 1 < (L + 1) * (L + 1)
  ·exact ⟨L, by omega, h⟩
  ·refine ⟨L + 1, by omega, ?_⟩
   have : (L + 1 + 1) * (L + 1 + 1) = (L + 1) * (L + 1) + (L + 1) + (L + 1) + 1 := by
    rw [Nat.add_mul (L + 1) 1 (L + 1 + 1), Nat.mul_add (L + 1) (L + 1) 1]; omega
   omega
theorem unitP_pos (z : Int) : 0 ≤ unitZ z ∧ unitZ z ≤ 6 := by unfold unitZ; split <;> (try split) <;> decide
theorem totP_ok {n L m : Nat} (h : unsE (cdB n L) (m : Int) = 0) : totE n L (m : Int) = unitZ (-(n : Int)) * totP (locg (kr (-(n : Int)))) m := by
 unfold totE; rw [if_pos h]; simp
theorem wrapP_small {z : Int} (h : -9223372036854775808 ≤ z) (h' : z ≤ 9223372036854775807) : IntKind.i64.wrap z = z := by simp only [IntKind.wrap_i64]; omega
set_option maxRecDepth 100000 in
theorem tz_of_laid {W : World} (h : laidMetH Tryz.prog laid4 W) : Tz W := by
 rw [MakeChecks.laidMetH_plain _ _ _ (by kernel_rfl)] at h
 obtain ⟨ps, ⟨g0, t0, cs0, f0, p0, q0, hg0, ht0, hv0, hd0, ⟨g1, t1, cs1, f1, p1, q1, hg1, ht1, hv1, hd1, _⟩, _⟩, _, _⟩ := h
 have hty : (Tryz.prog.globals[g1]?).map (·.type) = some t1 := ht1
 have hg : Tryz.prog.globalNamed "math/bits.deBruijn64tab" = some 2 := by kernel_rfl
 obtain rfl := Option.some.inj (hg.symm.trans hg1)
 have ht : (Tryz.prog.globals[2]?).map (·.type) = some 185 := by kernel_rfl
 obtain rfl := Option.some.inj (ht.symm.trans ht1)
 have hT : Lib.TabIs Tryz.prog W "math/bits.deBruijn64tab" .u8 [0, 1, 56, 2, 57, 49, 28, 3, 61, 58, 42, 50, 38, 29, 17, 4, 62, 47, 59, 36, 45, 43, 51, 22, 53, 39, 33, 30, 24, 18, 12, 5, 63, 55, 48, 27, 60, 41, 37, 16, 46, 35, 44, 21, 52, 32, 23, 11, 54, 26, 40, 15, 34, 20, 31, 10, 25, 14, 19, 9, 13, 8, 7, 6] := by
  unfold Lib.TabIs
  rw [hv1, ← Lib.cells_of_tab (n := 64) (k := .u8) (e := 5) (zs := [0, 1, 56, 2, 57, 49, 28, 3, 61, 58, 42, 50, 38, 29, 17, 4, 62, 47, 59, 36, 45, 43, 51, 22, 53, 39, 33, 30, 24, 18, 12, 5, 63, 55, 48, 27, 60, 41, 37, 16, 46, 35, 44, 21, 52, 32, 23, 11, 54, 26, 40, 15, 34, 20, 31, 10, 25, 14, 19, 9, 13, 8, 7, 6]) (by kernel_rfl) (by kernel_rfl) (by kernel_rfl) (by kernel_rfl) hd1]
 exact hT.cell hg 1 (by decide)
theorem Products_c (w : World) (d m k : Nat) (v1 v2 v3 v4 v5 v6 v7 v8 : Value) (ht : Tab w) (hs : Sg w) (htz : Tz w) (hd : d < 65536) (hm : m < 256) (hk : k < 256) :
  Calls Tryz.prog 3 #[.agg #[.int .u16 (d : Int), v1, v2, v3, v4, v5, v6, v7, v8], .int .u8 (m : Int), .int .u8 (k : Int)] w (Ret w (IsV (.bool true))) := by
 obtain ⟨L, hL⟩ := rootP_ex (dsz d)
 obtain ⟨hT1, hT2, hT3⟩ := dsz_ok d
 obtain ⟨T, hT⟩ : ∃ T, dsz d = T := ⟨_, rfl⟩
 rw [hT] at hL hT1 hT2 hT3
 have hM : IntKind.i64.wrap (m : Int) = (m : Int) ∧ IntKind.i64.wrap (1 + (m : Int)) = (((1 + m : Nat)) : Int) :=
  ⟨wrapP_small (by omega) (by omega), by rw [wrapP_small (by omega) (by omega)]; omega⟩
 have hK : IntKind.i64.wrap (k : Int) = (k : Int) ∧ IntKind.i64.wrap (1 + (k : Int)) = (((1 + k : Nat)) : Int) :=
  ⟨wrapP_small (by omega) (by omega), by rw [wrapP_small (by omega) (by omega)]; omega⟩
 have key := Products_1 w d m k v1 v2 v3 v4 v5 v6 v7 v8 ht hs T L (1 + m) (1 + k) (hid hd) (hid hT) (hid ⟨by omega, by omega, hT3⟩) (hid hL) (hid hM) (hid hK) (hid (by omega)) (hid (by omega)) htz _ _ (unitZ (-(T : Int))) (hid rfl) (hid rfl) (hid rfl) (hid (unitP_pos _)) (hid (by omega))
 refine key (hid ?_)
 by_cases hea : unsE (cdB T L) (((1 + m : Nat)) : Int) = 0
 ·by_cases heb : unsE (cdB T L) (((1 + k : Nat)) : Int) = 0
  ·have hC : (((1 + m : Nat)) : Int) * (((1 + k : Nat)) : Int) = (((1 + m) * (1 + k) : Nat) : Int) := by rw [Int.natCast_mul]
   have hcl : (1 + m) * (1 + k) ≤ 256 * 256 := Nat.mul_le_mul (by omega) (by omega)
   have hec : unsE (cdB T L) (((1 + m) * (1 + k) : Nat) : Int) = 0 := by rw [← hC]; exact unsE_mul hea heb (by rw [hC]; omega)
   refine .inr (.inr ⟨hea, heb, (1 + m) * (1 + k), _, _, _, _, _, Nat.gcd (1 + m) (1 + k), _, hC, ⟨rfl, hea⟩, ⟨rfl, heb⟩, ⟨rfl, hec⟩, ⟨rfl, rfl⟩, ⟨rfl, rfl, fun hb => ?_⟩, totP_ok hea⟩)
   have hg : Nat.gcd (1 + m) (1 + k) = 1 := by have := of_decide_eq_true hb; omega
   rw [totP_ok hea, totP_ok heb, totP_ok hec, totP_mul (locg_0 _) (by omega) (by omega) hg]
   congr 1
   generalize unitZ (-(T : Int)) = u
   rw [Int.mul_assoc u, Int.mul_assoc u, Int.mul_assoc, Int.mul_comm _ u, Int.mul_left_comm _ u]
  ·exact .inr (.inl ⟨hea, heb⟩)
 ·exact .inl hea
end Go.Proofs.YtknlaadcbhhbfaaGreatDoor
