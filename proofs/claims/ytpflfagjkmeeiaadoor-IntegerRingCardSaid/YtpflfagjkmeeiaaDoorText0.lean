/-
  Plain laws on decimal numerals, and rows of strings that a call itself makes. No condition.
-/
import Derived.Test.YtpflfagjkmeeiaaDoorRef2
import Derived.Lib.ItoaMem
import Derived.Lib.Repeat
namespace Go.Proofs.YtpflfagjkmeeiaaDoor
open Go Go.RowKit

/-- A numeral of exactly k digits, zeros ahead. -/
def padk (k r : Nat) : List UInt8 := List.replicate (k - (Lib.decDigits r).length) 48 ++ Lib.decDigits r
theorem dec_small {r : Nat} (h : r < 10) : Lib.decDigits r = [UInt8.ofNat (48 + r)] := by rw [Lib.decDigits, dif_pos h]
theorem dec_big {r : Nat} (h : ¬ r < 10) : Lib.decDigits r = Lib.decDigits (r / 10) ++ [UInt8.ofNat (48 + r % 10)] := by rw [Lib.decDigits, dif_neg h]
theorem padk_succ (k r : Nat) (hk : 1 ≤ k) : padk k (r / 10) ++ [UInt8.ofNat (48 + r % 10)] = padk (k + 1) r := by
  unfold padk
  by_cases h : r < 10
  · have h0 : r / 10 = 0 := by omega
    rw [h0, dec_small (show 0 < 10 by decide), dec_small h, Nat.mod_eq_of_lt h]
    simp only [List.length_cons, List.length_nil]
    obtain ⟨j, rfl⟩ : ∃ j, k = j + 1 := ⟨k - 1, by omega⟩
    rw [show j + 1 - (0 + 1) = j from by omega, show j + 1 + 1 - (0 + 1) = j + 1 from by omega, List.replicate_succ']
    rfl
  · rw [dec_big h]
    simp only [List.length_append, List.length_cons, List.length_nil]
    rw [show k + 1 - ((Lib.decDigits (r / 10)).length + (0 + 1)) = k - (Lib.decDigits (r / 10)).length from by omega, List.append_assoc]
theorem dec_split (q : Nat) (hq : 0 < q) : ∀ (k r : Nat), r < 10 ^ (k + 1) → Lib.decDigits (q * 10 ^ (k + 1) + r) = Lib.decDigits q ++ padk (k + 1) r
  | 0, r, h => by
    have h1 : r < 10 := by simpa using h
    rw [dec_big (by omega), show (q * 10 ^ (0 + 1) + r) / 10 = q from by omega, show (q * 10 ^ (0 + 1) + r) % 10 = r from by omega]
    unfold padk
    rw [dec_small h1]; rfl
  | k + 1, r, h => by
    have hp : 1 ≤ 10 ^ (k + 1) := Nat.one_le_pow _ _ (by decide)
    have h1 : 10 ≤ q * 10 ^ (k + 1 + 1) := by
      have := Nat.mul_le_mul hq hp
      rw [Nat.pow_succ 10 (k + 1), ← Nat.mul_assoc]; omega
    have hr : r / 10 < 10 ^ (k + 1) := by rw [Nat.pow_succ] at h; omega
    have e : q * 10 ^ (k + 1 + 1) = 10 * (q * 10 ^ (k + 1)) := by rw [Nat.pow_succ]; grind
    rw [dec_big (by omega), show (q * 10 ^ (k + 1 + 1) + r) / 10 = q * 10 ^ (k + 1) + r / 10 from by omega, show (q * 10 ^ (k + 1 + 1) + r) % 10 = r % 10 from by omega,
      dec_split q hq k (r / 10) hr, List.append_assoc, padk_succ (k + 1) r (by omega)]

/-- The numeral of an integer, and the error if it is too long. -/
def textS (z : Int) : List UInt8 := if 1300 < (Lib.itoa z).length then [] else Lib.itoa z
def textE (z : Int) : Int := if 1300 < (Lib.itoa z).length then 2 else 0
theorem itoa_parts (s : Bool) (m : Nat) (z : Int) (h : z = if s then -(m : Int) else m) (t : m = 0 → s = false) : Lib.itoa z = (if s then [45] else []) ++ Lib.decDigits m := by
  cases s
  · simp at h; rw [h, Lib.itoa_nonneg]; simp
  · simp at h t; rw [h, Lib.itoa_neg m (by omega)]; simp
end Go.Proofs.YtpflfagjkmeeiaaDoor
