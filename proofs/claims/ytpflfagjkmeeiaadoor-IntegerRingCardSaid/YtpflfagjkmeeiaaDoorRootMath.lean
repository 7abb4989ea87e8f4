/-
  Plain laws for roots: Newton's step from above. No condition.
-/
import Derived.Test.YtpflfagjkmeeiaaDoorFact
namespace Go.Proofs.YtpflfagjkmeeiaaDoor
open Go Go.RowKit

theorem amgm (r s : Nat) : ∀ j : Nat, (j + 1) * r * s ^ j ≤ r ^ (j + 1) + j * s ^ (j + 1)
  | 0 => by simp
  | j + 1 => by
    have ih := amgm r s j
    have h2 : 2 * (r * s) ≤ r * r + s * s := by
      rcases Nat.le_total r s with h | h
      · obtain ⟨d, rfl⟩ := Nat.le.dest h
        have : r * r + (r + d) * (r + d) = 2 * (r * (r + d)) + d * d := by grind
        omega
      · obtain ⟨d, rfl⟩ := Nat.le.dest h
        have : (s + d) * (s + d) + s * s = 2 * ((s + d) * s) + d * d := by grind
        omega
    rw [Nat.pow_succ r (j + 1), Nat.pow_succ s (j + 1), Nat.pow_succ s j]
    rw [Nat.pow_succ s j] at ih
    generalize s ^ j = P at *
    generalize r ^ (j + 1) = Q at *
    have h1 := Nat.mul_le_mul_right r ih
    have h3 := Nat.mul_le_mul_left ((j + 1) * P) h2
    have e1 : (j + 1) * r * P * r = (j + 1) * P * (r * r) := by grind
    have e2 : (Q + j * (P * s)) * r = Q * r + j * (P * (r * s)) := by grind
    have e3 : (j + 1) * P * (2 * (r * s)) = 2 * (j * (P * (r * s))) + 2 * (P * (r * s)) := by grind
    have e4 : (j + 1) * P * (r * r + s * s) = (j + 1) * P * (r * r) + (j + 1) * (P * s * s) := by grind
    have e5 : (j + 1 + 1) * r * (P * s) = j * (P * (r * s)) + 2 * (P * (r * s)) := by grind
    rw [e1, e2] at h1
    rw [e3, e4] at h3
    rw [e5]
    omega

theorem newton_ge (a s r j : Nat) (hs : 0 < s) (hr : r ^ (j + 1) ≤ a) : r ≤ (j * s + a / s ^ j) / (j + 1) := by
  rw [Nat.le_div_iff_mul_le (by omega)]
  have h := amgm r s j
  have hp : 0 < s ^ j := Nat.pow_pos hs
  rcases Nat.le_total (r * (j + 1)) (j * s) with h1 | h1
  · exact Nat.le_trans h1 (Nat.le_add_right _ _)
  · obtain ⟨d, hd⟩ := Nat.le.dest h1
    have h2 : d ≤ a / s ^ j := by
      rw [Nat.le_div_iff_mul_le hp]
      have h3 : (j + 1) * r * s ^ j = j * s ^ (j + 1) + d * s ^ j := by
        rw [Nat.mul_comm (j + 1) r, ← hd, Nat.add_mul, Nat.pow_succ]
        grind
      rw [h3] at h
      omega
    omega
theorem newton_lt (a s j : Nat) (hs : 0 < s) (h : a < s ^ (j + 1)) : (j * s + a / s ^ j) / (j + 1) < s := by
  rw [Nat.div_lt_iff_lt_mul (by omega)]
  have h1 : a / s ^ j < s := by
    rw [Nat.div_lt_iff_lt_mul (Nat.pow_pos hs), Nat.mul_comm, ← Nat.pow_succ]; exact h
  have : s * (j + 1) = j * s + s := by grind
  omega

/-- r is the k-th root of m, rounded down. -/
def IsRoot (m k r : Nat) : Prop := r ^ k ≤ m ∧ m < (r + 1) ^ k
theorem IsRoot.uniq {m k r r' : Nat} (h : IsRoot m k r) (h' : IsRoot m k r') : r = r' := by
  rcases Nat.lt_trichotomy r r' with h1 | h1 | h1
  · have := Nat.pow_le_pow_left (show r + 1 ≤ r' from h1) k
    have := h.2; have := h'.1; omega
  · exact h1
  · have := Nat.pow_le_pow_left (show r' + 1 ≤ r from h1) k
    have := h'.2; have := h.1; omega
/-- Every root is at most s. -/
def Above (m k s : Nat) : Prop := ∀ r, r ^ k ≤ m → r ≤ s
theorem Above.start (m k c : Nat) (h : bitLen m ≤ k * c) : Above m k (2 ^ c) := by
  intro r hr
  rcases Nat.lt_or_ge (2 ^ c) r with h1 | h1
  · exfalso
    have h2 := Nat.pow_le_pow_left (Nat.le_of_lt h1) k
    rw [← Nat.pow_mul] at h2
    rcases Nat.eq_zero_or_pos m with h0 | h0
    · subst h0
      have : 0 < 2 ^ (c * k) := Nat.pow_pos (by decide)
      omega
    · obtain ⟨b, hb, _, h3⟩ := bitLen_bounds m (by omega)
      have h4 : 2 ^ (b + 1) ≤ 2 ^ (c * k) := Nat.pow_le_pow_right (by decide) (by rw [Nat.mul_comm c k]; omega)
      omega
  · exact h1
theorem Above.step {m s j t : Nat} (hs : 0 < s) (ht : t = (j * s + m / s ^ j) / (j + 1)) : Above m (j + 1) t := by
  intro r hr
  rw [ht]; exact newton_ge m s r j hs hr
theorem Above.fin {m s j t : Nat} (h : Above m (j + 1) s) (hs : 0 < s) (ht : t = (j * s + m / s ^ j) / (j + 1)) (hst : s ≤ t) : IsRoot m (j + 1) s := by
  constructor
  · rcases Nat.lt_or_ge m (s ^ (j + 1)) with h1 | h1
    · have := newton_lt m s j hs h1; omega
    · exact h1
  · rcases Nat.lt_or_ge m ((s + 1) ^ (j + 1)) with h1 | h1
    · exact h1
    · have := h _ h1; omega
theorem Above.pos {m k s : Nat} (h : Above m k s) (hm : 1 ≤ m) : 0 < s := by
  have := h 1 (by rw [Nat.one_pow]; exact hm); omega

/-- How many words the powers take. -/
theorem root_words (n k c : Nat) (hk : 0 < k) (hkn : k < n) (hc : c = (n + k - 1) / k) : n ≤ k * c ∧ k * c < 2 * n ∧ (c / 32 + 1) * (k - 1) ≤ 2 * n ∧ c / 32 + 1 ≤ n := by
  have h1 : k * c ≤ n + k - 1 := by rw [hc]; exact Nat.mul_div_le _ _
  have h2 : n + k - 1 < k * (c + 1) := by
    rw [hc]
    have := Nat.lt_mul_div_succ (n + k - 1) hk
    exact this
  rw [Nat.mul_add] at h2
  have h3 : c ≤ k * c := Nat.le_mul_of_pos_left c hk
  have h4 : (c / 32 + 1) * (k - 1) ≤ (c / 32 + 1) * k := Nat.mul_le_mul_left _ (by omega)
  have h5 : (c / 32) * k ≤ k * c / 32 := by
    rw [Nat.le_div_iff_mul_le (by decide)]
    have : c / 32 * k * 32 = (c / 32 * 32) * k := by grind
    rw [this, Nat.mul_comm k c]
    exact Nat.mul_le_mul_right _ (by omega)
  have h6 : (c / 32 + 1) * k = c / 32 * k + k := by grind
  refine ⟨by omega, by omega, by omega, by omega⟩
theorem two_pow_words (c : Nat) : 2 ^ c < 4294967296 ^ (c / 32 + 1) := by
  rw [show (4294967296 : Nat) = 2 ^ 32 from rfl, ← Nat.pow_mul]
  exact Nat.pow_lt_pow_right (by decide) (by omega)
theorem root_tdiv (n k c : Nat) (hk : 0 < k) (hc : c = (n + k - 1) / k) : (((n : Int) + k - 1).tdiv k) = (c : Int) := by
  rw [Int.tdiv_eq_ediv_of_nonneg (by omega), hc, show ((n : Int) + k - 1) = ((n + k - 1 : Nat) : Int) by omega]
  exact (Int.natCast_ediv _ _).symm
theorem newton_int (z s : Int) (j : Nat) (m r : Nat) (hz : z = m) (hs : s = r) : (s * (((j + 1 : Nat) : Int) - 1) + z / s ^ j) / ((j + 1 : Nat) : Int) = ((j * r + m / r ^ j) / (j + 1) : Nat) := by
  subst hz hs
  have h1 : ((j + 1 : Nat) : Int) - 1 = (j : Int) := by omega
  rw [h1, Int.mul_comm]
  simp [Int.natCast_ediv, Int.natCast_add, Int.natCast_mul, Int.natCast_pow]
end Go.Proofs.YtpflfagjkmeeiaaDoor
