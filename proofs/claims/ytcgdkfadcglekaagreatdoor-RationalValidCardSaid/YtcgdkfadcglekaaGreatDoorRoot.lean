/-
  Integers of package integer: Root. Every integer of at most 2^20 words, every int as the degree. (Printed in part by wip/gen/root.py.) Integers of package integer: Root and Sqrt, as facts. Every integer of at most 2^20 words. (Printed in part by wip/gen/sqrt.py.)
-/
import Derived.Test.YtcgdkfadcglekaaGreatDoorFact
namespace Go.Proofs.YtcgdkfadcglekaaGreatDoor
/-- What the loop keeps. -/
def RootI (w : World) (k1 ks : Nat) (z1 : Int) (j g7 s : Nat) (W : World) : Prop :=
  St w W [(g7, IsI ks (s : Int)), (w.heap.size + 1, IsI 0 0), (w.heap.size, IsI k1 z1)] ∧ Above z1.natAbs (j + 1) s

end Go.Proofs.YtcgdkfadcglekaaGreatDoor
namespace Go.Proofs.YtcgdkfadcglekaaGreatDoor
open Go Go.RowKit

theorem IsRoot.le {m k r : Nat} (h : IsRoot m k r) (hk : 1 ≤ k) : r ≤ m := by
  rcases Nat.eq_zero_or_pos r with h0 | h0
  · omega
  · have h1 : r ^ 1 ≤ r ^ k := Nat.pow_le_pow_right h0 hk
    rw [Nat.pow_one] at h1
    have := h.1; omega
theorem bitLen_le (m k : Nat) (h : m < 4294967296 ^ k) : bitLen m ≤ 32 * k := by
  rcases Nat.eq_zero_or_pos m with h0 | h0
  · subst h0; simp [bitLen]
  · obtain ⟨b, hb, h1, _⟩ := bitLen_bounds m (by omega)
    rw [show (4294967296 : Nat) = 2 ^ 32 from rfl, ← Nat.pow_mul] at h
    have h2 : 2 ^ b < 2 ^ (32 * k) := by omega
    have := (Nat.pow_lt_pow_iff_right (by decide : 1 < 2)).1 h2
    omega

theorem lt_of_bitLen (q k : Nat) (hq : bitLen q ≤ 32 * k) : q < 4294967296 ^ k := by
  rw [show (4294967296 : Nat) = 2 ^ 32 from rfl, ← Nat.pow_mul]
  rcases Nat.eq_zero_or_pos q with h0 | h0
  · subst h0; exact Nat.pow_pos (by decide)
  · obtain ⟨b, h6, _, h7⟩ := bitLen_bounds q (by omega)
    exact Nat.lt_of_lt_of_le h7 (Nat.pow_le_pow_right (by decide) (by omega))
end Go.Proofs.YtcgdkfadcglekaaGreatDoor
