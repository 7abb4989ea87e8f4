/-
  The laws of layer 1: is and examples. Where the table of powers of ten is laid. (Printed in part by wip/gen/law01a.py.)
-/
import Derived.Test.YtcgdkfadcglekaaGreatDoorRgm
namespace Go.Proofs.YtcgdkfadcglekaaGreatDoor
open Go Go.RowKit

theorem bez_uniq (a b g u v u' v' : Int) (hb : b ≠ 0) (hga : g ∣ a) (hgb : g ∣ b) (h : g = u * a + v * b) (h' : g = u' * a + v' * b) (h0 : 0 ≤ u) (h1 : u < (b / g).natAbs) (h0' : 0 ≤ u') (h1' : u' < (b / g).natAbs) : u = u' ∧ v = v' := by
  obtain ⟨a', rfl⟩ := hga
  obtain ⟨b', rfl⟩ := hgb
  have hg : g ≠ 0 := fun h => hb (by rw [h]; simp)
  have hb' : b' ≠ 0 := fun h => hb (by rw [h]; simp)
  rw [Int.mul_ediv_cancel_left _ hg] at h1 h1'
  have e1 : u * a' + v * b' = 1 := by
    have h2 : g * (u * a' + v * b') = g * 1 := by rw [Int.mul_one]; grind
    exact Int.eq_of_mul_eq_mul_left hg h2
  have e2 : (u - u') * a' = (v' - v) * b' := by
    have h2 : g * ((u - u') * a') = g * ((v' - v) * b') := by grind
    exact Int.eq_of_mul_eq_mul_left hg h2
  have e3 : u - u' = b' * (u * (v' - v) + v * (u - u')) := by
    have h3 : (u - u') * (u * a' + v * b') = u - u' := by rw [e1, Int.mul_one]
    have h4 : (u - u') * (u * a' + v * b') = u * ((u - u') * a') + v * b' * (u - u') := by grind
    rw [e2] at h4
    rw [← h3, h4]; grind
  have e4 : u * (v' - v) + v * (u - u') = 0 := by
    generalize u * (v' - v) + v * (u - u') = q at *
    rcases Classical.em (q = 0) with h5 | h5
    · exact h5
    · exfalso
      have h6 : (u - u').natAbs = b'.natAbs * q.natAbs := by rw [e3, Int.natAbs_mul]
      have h7 : b'.natAbs * 1 ≤ b'.natAbs * q.natAbs := Nat.mul_le_mul_left _ (by omega)
      omega
  rw [e4, Int.mul_zero] at e3
  have hu : u = u' := by omega
  subst hu
  refine ⟨rfl, ?_⟩
  rw [Int.sub_self, Int.zero_mul] at e2
  rcases Int.mul_eq_zero.1 e2.symm with h5 | h5
  · omega
  · exact absurd h5 hb'

theorem ex_text : encS (textS (-4294967296)) = .string ⟨#[45, 52, 50, 57, 52, 57, 54, 55, 50, 57, 54]⟩ ∧ textE (-4294967296) = 0 := by
  have h : Lib.itoa (-4294967296) = [45, 52, 50, 57, 52, 57, 54, 55, 50, 57, 54] := by
    rw [Lib.itoa, if_pos (by decide)]
    simp [Lib.decDigits]
  rw [textS, textE, h]
  exact ⟨rfl, rfl⟩

end Go.Proofs.YtcgdkfadcglekaaGreatDoor
