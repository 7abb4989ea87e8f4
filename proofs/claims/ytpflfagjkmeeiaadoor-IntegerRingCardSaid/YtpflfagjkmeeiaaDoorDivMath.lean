/-
  Plain laws on long division, digit by digit: the guess of a digit from the first digits is right or one too great. No program.
-/
import Derived.Test.YtpflfagjkmeeiaaDoorNatMath
namespace Go.Proofs.YtpflfagjkmeeiaaDoor

/-- q V W is at most N: then q v1 is at most the first two digits. -/
theorem guess_ge (q V W Nu lo P x0 first v1 v2 V0 : Nat) (hq : q * (V * W) ≤ Nu) (hN : Nu = lo + W * P * (x0 + 4294967296 * first)) (hlo : lo < W * P) (hx0 : x0 < 4294967296)
    (hV : V = V0 + P * (v2 + 4294967296 * v1)) : q * v1 ≤ first := by
  apply Nat.le_of_not_lt
  intro h
  have h1 : W * P * (4294967296 * (first + 1)) ≤ W * P * (4294967296 * (q * v1)) := Nat.mul_le_mul_left _ (by omega)
  have h2 : W * P * (x0 + 4294967296 * first + 1) ≤ W * P * (4294967296 * (first + 1)) := Nat.mul_le_mul_left _ (by omega)
  have h3 : q * (V * W) = W * (q * V0) + W * P * (q * v2) + W * P * (4294967296 * (q * v1)) := by subst hV; grind
  have h4 : W * P * (x0 + 4294967296 * first + 1) = W * P * (x0 + 4294967296 * first) + W * P := by rw [Nat.mul_add, Nat.mul_one]
  generalize W * P * (4294967296 * (q * v1)) = a1 at *
  generalize W * P * (4294967296 * (first + 1)) = a2 at *
  generalize W * P * (x0 + 4294967296 * first) = a3 at *
  omega
/-- A guess that fails the test with the third digit is too great. -/
theorem guess_dec (q g r V W Nu lo P x0 first v1 v2 V0 : Nat) (hq : q * (V * W) ≤ Nu) (hN : Nu = lo + W * P * (x0 + 4294967296 * first)) (hlo : lo < W * P)
    (hV : V = V0 + P * (v2 + 4294967296 * v1)) (hqg : q ≤ g) (hg : g * v1 + r = first) (ht : r * 4294967296 + x0 < g * v2) : q + 1 ≤ g := by
  rcases Nat.lt_or_ge q g with h | h
  · exact h
  · exfalso
    obtain rfl : q = g := by omega
    have h1 : q * (V * W) = W * (q * V0) + W * P * (q * v2 + 4294967296 * (q * v1)) := by subst hV; grind
    have h2 : x0 + 4294967296 * first + 1 ≤ q * v2 + 4294967296 * (q * v1) := by
      generalize q * v1 = a at *
      generalize q * v2 = b at *
      omega
    have h3 := Nat.mul_le_mul_left (W * P) h2
    rw [Nat.mul_add _ _ 1, Nat.mul_one] at h3
    generalize W * P * (q * v2 + 4294967296 * (q * v1)) = a1 at *
    generalize W * P * (x0 + 4294967296 * first) = a3 at *
    omega
theorem digit_lt (q X Nu : Nat) (hq : q * X ≤ Nu) (hN : Nu < X * 4294967296) : q < 4294967296 := by
  apply Nat.lt_of_not_le
  intro h
  have := Nat.mul_le_mul_right X h
  rw [Nat.mul_comm 4294967296] at this
  omega
/-- A guess that passes the test is at most one too great. -/
theorem guess_le (g r V W Nu lo P x0 first v1 v2 V0 : Nat) (hN : Nu = lo + W * P * (x0 + 4294967296 * first)) (hV : V = V0 + P * (v2 + 4294967296 * v1)) (hV0 : V0 < P)
    (hg : g * v1 + r = first) (ht : g * v2 ≤ r * 4294967296 + x0) (hgB : g ≤ 4294967296) (hv1 : 0 < v1) : g * (V * W) ≤ Nu + V * W := by
  have h1 : g * (V * W) = W * (g * V0) + W * P * (g * v2 + 4294967296 * (g * v1)) := by subst hV; grind
  have h2 : g * v2 + 4294967296 * (g * v1) ≤ x0 + 4294967296 * first := by
    generalize g * v1 = a at *
    generalize g * v2 = b at *
    omega
  have h3 := Nat.mul_le_mul_left (W * P) h2
  have h4 : W * (g * V0) ≤ W * (4294967296 * P) := Nat.mul_le_mul_left _ (Nat.mul_le_mul hgB (by omega))
  have h5 : W * (4294967296 * P) ≤ V * W := by
    rw [Nat.mul_comm V]
    apply Nat.mul_le_mul_left
    rw [hV, Nat.mul_comm _ P]
    have : P * 4294967296 ≤ P * (v2 + 4294967296 * v1) := Nat.mul_le_mul_left _ (by omega)
    omega
  generalize W * (g * V0) = a1 at *
  generalize W * (4294967296 * P) = a2 at *
  generalize W * P * (g * v2 + 4294967296 * (g * v1)) = a3 at *
  generalize W * P * (x0 + 4294967296 * first) = a4 at *
  omega
theorem first_le (V W Nu lo P x0 x1 x2 v1 v2 V0 : Nat) (hN : Nu = lo + W * P * (x0 + 4294967296 * (x2 * 4294967296 + x1))) (hlt : Nu < V * W * 4294967296) (hV : V = V0 + P * (v2 + 4294967296 * v1)) (hV0 : V0 < P)
    (hv2 : v2 < 4294967296) : x2 ≤ v1 := by
  apply Nat.le_of_not_lt
  intro h
  have h1 : V < P * (4294967296 * (v1 + 1)) := by
    have : P * (v2 + 4294967296 * v1 + 1) ≤ P * (4294967296 * (v1 + 1)) := Nat.mul_le_mul_left _ (by omega)
    rw [Nat.mul_add _ _ 1, Nat.mul_one] at this
    omega
  have h2 : V * W * 4294967296 ≤ P * (4294967296 * (v1 + 1)) * W * 4294967296 := Nat.mul_le_mul_right _ (Nat.mul_le_mul_right _ (Nat.le_of_lt h1))
  have h3 : W * P * (4294967296 * ((v1 + 1) * 4294967296)) ≤ W * P * (x0 + 4294967296 * (x2 * 4294967296 + x1)) := Nat.mul_le_mul_left _ (by omega)
  have h4 : P * (4294967296 * (v1 + 1)) * W * 4294967296 = W * P * (4294967296 * ((v1 + 1) * 4294967296)) := by grind
  omega
theorem guess_small (g r first v1 x1 x2 : Nat) (hg : g * v1 + r = first) (hf : first = x2 * 4294967296 + x1) (hx1 : x1 < 4294967296) (hx2 : x2 ≤ v1) (hr : 4294967296 ≤ r) : g < 4294967296 := by
  apply Nat.lt_of_not_le
  intro h
  have h1 : 4294967296 * v1 ≤ g * v1 := Nat.mul_le_mul_right _ h
  have h2 : x2 * 4294967296 ≤ v1 * 4294967296 := Nat.mul_le_mul_right _ hx2
  omega
theorem guess_final (g q X Nu : Nat) (h1 : g * X ≤ Nu + X) (h2 : Nu < (q + 1) * X) : g ≤ q + 1 := by
  apply Nat.le_of_not_lt
  intro h
  have := Nat.mul_le_mul_right X (show q + 2 ≤ g by omega)
  rw [Nat.add_mul] at *
  omega
theorem prod2_lt (g v : Nat) (hg : g < 4294967296) (hv : v < 4294967296) : g * v ≤ 18446744065119617025 := by
  have := Nat.mul_le_mul (show g ≤ 4294967295 by omega) (show v ≤ 4294967295 by omega)
  omega

/-- A step of 'multiply and subtract': old word x, word of the divisor y, carry c, borrow b. -/
theorem ms_step (Nu U G g k j x y c b t q s o : Nat) (hinv : U + g * (G * 4294967296 ^ j) = Nu + 4294967296 ^ (j + k) * (b + c)) (ht : t = g * y + c) (hq : q = t / 4294967296)
    (hs : s + t % 4294967296 + b = x + 4294967296 * o) (U' : Nat) (hU : U' + 4294967296 ^ (j + k) * x = U + 4294967296 ^ (j + k) * s) :
    U' + g * ((G + 4294967296 ^ k * y) * 4294967296 ^ j) = Nu + 4294967296 ^ (j + (k + 1)) * (o + q) := by
  have h : 4294967296 * q + t % 4294967296 = g * y + c := by rw [hq, ← ht]; omega
  generalize t % 4294967296 = m at *
  rw [Nat.pow_add] at *
  rw [Nat.pow_succ]
  have h1 : 4294967296 ^ j * 4294967296 ^ k * (s + m + b) = 4294967296 ^ j * 4294967296 ^ k * (x + 4294967296 * o) := by rw [hs]
  have h2 : 4294967296 ^ j * 4294967296 ^ k * (4294967296 * q + m) = 4294967296 ^ j * 4294967296 ^ k * (g * y + c) := by rw [h]
  grind
/-- The last word of 'multiply and subtract'. -/
theorem ms_last (Nu U V g n j x c b s o : Nat) (hinv : U + g * (V * 4294967296 ^ j) = Nu + 4294967296 ^ (j + n) * (b + c)) (hs : s + c + b = x + 4294967296 * o)
    (U' : Nat) (hU : U' + 4294967296 ^ (j + n) * x = U + 4294967296 ^ (j + n) * s) :
    U' + g * (V * 4294967296 ^ j) = Nu + 4294967296 ^ (j + n + 1) * o := by
  have h1 : 4294967296 ^ (j + n) * (s + c + b) = 4294967296 ^ (j + n) * (x + 4294967296 * o) := by rw [hs]
  rw [Nat.pow_succ]
  grind
/-- A step of 'add back'. -/
theorem ab_step (M U G k j x y c t q s : Nat) (hinv : U + 4294967296 ^ (j + k) * c = M + G * 4294967296 ^ j) (ht : t = x + y + c) (hq : q = t / 4294967296) (hs : s = t % 4294967296)
    (U' : Nat) (hU : U' + 4294967296 ^ (j + k) * x = U + 4294967296 ^ (j + k) * s) :
    U' + 4294967296 ^ (j + (k + 1)) * q = M + (G + 4294967296 ^ k * y) * 4294967296 ^ j := by
  have h : 4294967296 * q + s = x + y + c := by rw [hq, hs, ← ht]; omega
  have h2 : 4294967296 ^ (j + k) * (4294967296 * q + s) = 4294967296 ^ (j + k) * (x + y + c) := by rw [h]
  rw [← Nat.add_assoc, Nat.pow_succ]
  rw [Nat.pow_add] at *
  grind
/-- The last word of 'add back': the carry runs out at the top. -/
theorem ab_last (Nu M U V W T L g x c s : Nat) (hM : M + g * (V * W) = Nu + T * 4294967296) (hinv : U + T * c = M + V * W) (hg : (g - 1) * (V * W) ≤ Nu) (hg1 : 1 ≤ g) (hL : U = L + T * x) (hLT : L < T)
    (hx : x < 4294967296) (hc : c ≤ 1) (hs : s = (x + c) % 4294967296) (U' : Nat) (hU : U' + T * x = U + T * s) : U' + (g - 1) * (V * W) = Nu := by
  obtain ⟨h, rfl⟩ : ∃ h, g = h + 1 := ⟨g - 1, by omega⟩
  simp only [Nat.add_sub_cancel] at *
  rw [Nat.add_mul, Nat.one_mul] at hM
  generalize V * W = X at *
  generalize h * X = Y at *
  have h1 : T * 4294967296 ≤ L + T * (x + c) := by rw [Nat.mul_add]; omega
  have h2 : 4294967296 ≤ x + c := by
    apply Nat.le_of_not_lt
    intro hh
    have := Nat.mul_le_mul_left T (show x + c + 1 ≤ 4294967296 by omega)
    rw [Nat.mul_add _ _ 1, Nat.mul_one] at this
    omega
  have h3 : x + c = 4294967296 := by omega
  have h4 : s = 0 := by rw [hs, h3]
  have h5 : T * (x + c) = T * 4294967296 := by rw [h3]
  rw [Nat.mul_add] at h5
  rw [h4, Nat.mul_zero] at hU
  omega
/-- No borrow is left if the guess is not too great, and one if it is. -/
theorem ms_borrow (Nu M g q X T b : Nat) (h : M + g * X = Nu + T * b) (hM : M < T) (hq : q * X ≤ Nu) (hq1 : Nu < (q + 1) * X) (hqg : q ≤ g) (hg : g ≤ q + 1) (hb : b ≤ 1) : (b = 0 → g = q) ∧ (b = 1 → g = q + 1) := by
  refine ⟨fun h0 => ?_, fun h1 => ?_⟩
  · subst h0
    rcases Nat.lt_or_ge q g with hlt | hge
    · obtain rfl : g = q + 1 := by omega
      omega
    · omega
  · subst h1
    rcases Nat.lt_or_ge q g with hlt | hge
    · omega
    · obtain rfl : g = q := by omega
      omega
theorem pv_zero_above (xs : List Nat) (k : Nat) (h : ∀ i, k ≤ i → xs.getD i 0 = 0) : pv xs k = natVal xs := by
  have key : ∀ m, pv xs (k + m) = pv xs k := fun m => by
    induction m with
    | zero => rfl
    | succ m ih => rw [← Nat.add_assoc, pv, ih, h (k + m) (by omega), Nat.mul_zero, Nat.add_zero]
  rw [← key xs.length, pv_all xs _ (by omega)]
theorem zero_above (xs : List Nat) (k : Nat) (h : natVal xs < 4294967296 ^ k) : ∀ i, k ≤ i → xs.getD i 0 = 0 := by
  intro i hi
  rcases Nat.eq_zero_or_pos (xs.getD i 0) with h0 | h0
  · exact h0
  · exfalso
    have hil : i < xs.length := by
      rcases Nat.lt_or_ge i xs.length with h1 | h1
      · exact h1
      · rw [getD_big xs i h1] at h0; omega
    have e := natVal_set xs i 0 hil
    rw [Nat.mul_zero, Nat.add_zero] at e
    have h1 : 4294967296 ^ i * 1 ≤ 4294967296 ^ i * xs.getD i 0 := Nat.mul_le_mul_left _ h0
    have h2 : 4294967296 ^ k ≤ 4294967296 ^ i := Nat.pow_le_pow_right (by omega) hi
    rw [Nat.mul_one] at h1
    omega
end Go.Proofs.YtpflfagjkmeeiaaDoor
