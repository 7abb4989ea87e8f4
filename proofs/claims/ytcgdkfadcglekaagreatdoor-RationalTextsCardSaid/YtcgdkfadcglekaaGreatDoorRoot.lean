/-
  Integers of package integer: Root. Every integer of at most 2^20 words, every int as the degree. (Printed in part by wip/gen/root.py.) Integers of package integer: Root and Sqrt, as facts. Every integer of at most 2^20 words. (Printed in part by wip/gen/sqrt.py.)
-/
import Derived.Test.YtcgdkfadcglekaaGreatDoorFact
namespace Go.Proofs.YtcgdkfadcglekaaGreatDoor
end Go.Proofs.YtcgdkfadcglekaaGreatDoor
namespace Go.Proofs.YtcgdkfadcglekaaGreatDoor
open Go Go.RowKit

theorem IsRoot.le {m k r : Nat} (h : IsRoot m k r) (hk : 1 ≤ k) : r ≤ m := by
  rcases Nat.eq_zero_or_pos r with h0 | h0
  · omega
  · have h1 : r ^ 1 ≤ r ^ k := Nat.pow_le_pow_right h0 hk
    rw [Nat.pow_one] at h1
    have := h.1; omega
end Go.Proofs.YtcgdkfadcglekaaGreatDoor
