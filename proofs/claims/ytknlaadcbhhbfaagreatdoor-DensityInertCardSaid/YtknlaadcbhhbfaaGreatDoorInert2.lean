/-
 The law DensityInert at every argument: the cases of the walk, joined by plain numbers.
-/
import Derived.Test.YtknlaadcbhhbfaaGreatDoorInert
namespace Go.Proofs.YtknlaadcbhhbfaaGreatDoor
open Go Go.RowKit

theorem pr6_Is (j : Nat) (hj : j < 6) : ∀ x w, IsI 2 ((pr6 j : Nat) : Int) x w → Calls Tryz.prog 38 #[x] w (Ret w (IsT2 (IsV (.bool true)) (IsV (.int .i64 0)))) :=
 fun x w hx => Is_b j (by omega) hx
theorem unitZ_pos (z : Int) : 0 ≤ unitZ z ∧ unitZ z ≤ 6 := by unfold unitZ; split <;> (try split) <;> decide
theorem totE_ok {n L m : Nat} (h : unsE (cdB n L) ((m : Nat) : Int) = 0) : totE n L ((m : Nat) : Int) = unitZ (-((n : Nat) : Int)) * totP (locg (kr (-((n : Nat) : Int)))) m := by
 unfold totE; rw [if_pos h]; simp
theorem tot_box {u : Int} {ch : Nat → Int} {m : Nat} (hu : 0 ≤ u ∧ u ≤ 6) (hm : 0 < m) (hm2 : m ≤ 1048576) : 0 ≤ u * totP (locg ch) m ∧ u * totP (locg ch) m ≤ 6291456 := by
 have h1 := Qp_le ch hm
 have h2 : 0 ≤ totP (locg ch) m := by rw [totP_Q (locg_0 ch) hm (Nat.le_refl _)]; exact Qp_nonneg ..
 refine ⟨Int.mul_nonneg hu.1 h2, ?_⟩
 have h3 : totP (locg ch) m ≤ 1048576 := by omega
 exact Int.le_trans (Int.mul_le_mul hu.2 h3 h2 (by decide)) (by decide)
theorem wrap_small {z : Int} (h : -9223372036854775808 ≤ z) (h' : z ≤ 9223372036854775807) : IntKind.i64.wrap z = z := by simp only [IntKind.wrap_i64]; omega

theorem Inert_c (w : World) (d m k : Nat) (v1 v2 v3 v4 v5 v6 v7 v8 : Value) (ht : Tab w) (hs : Sg w) (hd : d < 65536) (hm : m < 256) (hk : k < 256) :
  Calls Tryz.prog 4 #[.agg #[.int .u16 ((d : Nat) : Int), v1, v2, v3, v4, v5, v6, v7, v8], .int .u8 ((m : Nat) : Int), .int .u8 ((k : Nat) : Int)] w (Ret w (IsV (.bool true))) := by
 obtain ⟨L, hL⟩ := root_ex (dsz d)
 obtain ⟨hT1, hT2, hT3⟩ := dsz_ok d
 obtain ⟨T, hT⟩ : ∃ T, dsz d = T := ⟨_, rfl⟩
 rw [hT] at hL hT1 hT2 hT3
 have hj : k % 6 < 6 := Nat.mod_lt _ (by decide)
 obtain ⟨j, hjj⟩ : ∃ j, k % 6 = j := ⟨_, rfl⟩
 rw [hjj] at hj
 obtain ⟨hp1, hp2⟩ := pr6_ok j hj
 have hPr := pr6_Pr j hj
 have hIs := pr6_Is j hj
 obtain ⟨p, hp⟩ : ∃ p, pr6 j = p := ⟨_, rfl⟩
 rw [hp] at hp1 hp2 hPr hIs
 have hab : (1 + m) * p ≤ 256 * 13 := Nat.mul_le_mul (by omega) hp2
 have hab0 : 0 < (1 + m) * p := Nat.mul_pos (by omega) (by omega)
 have hJ : ((k : Nat) : Int).tmod 6 = ((j : Nat) : Int) ∧ j < 6 := ⟨by rw [Int.tmod_eq_emod_of_nonneg (by omega)]; omega, hj⟩
 have hM : IntKind.i64.wrap ((m : Nat) : Int) = ((m : Nat) : Int) ∧ IntKind.i64.wrap (1 + ((m : Nat) : Int)) = (((1 + m : Nat)) : Int) :=
  ⟨wrap_small (by omega) (by omega), by rw [wrap_small (by omega) (by omega)]; omega⟩
 have hB : (((1 + m : Nat)) : Int) * ((p : Nat) : Int) = ((((1 + m) * p : Nat)) : Int) := by rw [Int.natCast_mul]
 by_cases he : unsE (cdB T L) ((((1 + m) * p : Nat)) : Int) = 0
 ·have ha : unsE (cdB T L) (((1 + m : Nat)) : Int) = 0 := unsE_dvd he (by omega) ⟨((p : Nat) : Int), hB.symm⟩
  have hpp : unsE (cdB T L) ((p : Nat) : Int) = 0 := unsE_dvd he (by omega) ⟨(((1 + m : Nat)) : Int), by rw [Int.mul_comm, hB]⟩
  have hC : ((((1 + m) * p : Nat)) : Int) * ((p : Nat) : Int) = (((1 + m) * p * p : Nat) : Int) := by rw [Int.natCast_mul ((1 + m) * p)]
  have hc2 : (1 + m) * p * p ≤ 256 * 13 * 13 := Nat.mul_le_mul hab hp2
  have hc0 : 0 < (1 + m) * p * p := Nat.mul_pos hab0 (by omega)
  have hc : unsE (cdB T L) (((1 + m) * p * p : Nat) : Int) = 0 := by rw [← hC]; exact unsE_mul he hpp (by rw [hC]; omega)
  refine Inert_1 w d m k v1 v2 v3 v4 v5 v6 v7 v8 ht hs T L j p (1 + m) ((1 + m) * p) ((1 + m) * p * p) (hid hd) (hid hT) (hid ⟨by omega, by omega, hT3⟩) (hid hL) (hid hJ) (hid hp) (hid hM) (hid (by omega)) (hid (by omega)) (hid hB) _ _ _ (IntKind.i64.wrap (totE T L (((1 + m) * p : Nat) : Int) - totE T L (((1 + m : Nat)) : Int))) _ (hid he) (hid hC) (hid ⟨rfl, ha⟩) (hid ⟨rfl, he⟩) (hid ⟨rfl, hc⟩) (hid hpp) (hid (by omega)) (hid hPr) (hid hIs) (hid rfl) (hid ?_)
  rw [totE_ok ha, totE_ok he, totE_ok hc, vl_self hp1]
  have hu := unitZ_pos (-((T : Nat) : Int))
  have b1 := tot_box (ch := kr (-((T : Nat) : Int))) hu (show 0 < 1 + m by omega) (by omega)
  have b2 := tot_box (ch := kr (-((T : Nat) : Int))) hu hab0 (by omega)
  have b3 := tot_box (ch := kr (-((T : Nat) : Int))) hu hc0 (by omega)
  rcases inert_law (kr (-((T : Nat) : Int))) (show 0 < 1 + m by omega) hPr hu.1 with ⟨h1, h2, h3, h4⟩ | ⟨h1, h2, h3, h4⟩ | ⟨h1, h2, h3⟩
  ·exact .inl ⟨h1, h3.symm, h4.symm⟩
  ·exact .inr (.inl ⟨h1, h2, h3, by rw [h4], rfl⟩)
  ·exact .inr (.inr ⟨h1, h2.symm, h3⟩)
 ·exact Inert_0 w d m k v1 v2 v3 v4 v5 v6 v7 v8 ht hs T L j p (1 + m) ((1 + m) * p) (hid hd) (hid hT) (hid ⟨by omega, by omega, hT3⟩) (hid hL) (hid hJ) (hid hp) (hid hM) (hid (by omega)) (hid (by omega)) (hid hB) _ (hid rfl) (hid he)
end Go.Proofs.YtknlaadcbhhbfaaGreatDoor
