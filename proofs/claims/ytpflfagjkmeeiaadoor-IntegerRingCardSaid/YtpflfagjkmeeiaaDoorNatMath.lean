/-
  Plain laws on the numbers that words stand for: prefixes, sums, differences, products word by word. No program.
-/
import Derived.Test.YtpflfagjkmeeiaaDoorBase
namespace Go.Proofs.YtpflfagjkmeeiaaDoor

/-- The number that the first k words stand for. -/
def pv (xs : List Nat) : Nat → Nat
  | 0 => 0
  | k + 1 => pv xs k + 4294967296 ^ k * xs.getD k 0

theorem pv_take (xs : List Nat) (k : Nat) : pv xs k = natVal (xs.take k) := by
  induction k with
  | zero => simp [pv, natVal]
  | succ k ih =>
    rw [pv, ih]
    by_cases h : k < xs.length
    · rw [natVal_take_succ xs k h]
    · rw [List.take_of_length_le (by omega), List.take_of_length_le (by omega)]
      simp [List.getD, List.getElem?_eq_none (by omega : xs.length ≤ k)]
theorem pv_all (xs : List Nat) (k : Nat) (h : xs.length ≤ k) : pv xs k = natVal xs := by
  rw [pv_take, List.take_of_length_le h]
theorem pv_lt (xs : List Nat) (h : ∀ i, xs.getD i 0 < 4294967296) (k : Nat) : pv xs k < 4294967296 ^ k := by
  induction k with
  | zero => simp [pv]
  | succ k ih =>
    rw [pv, Nat.pow_succ]
    have h1 := h k
    have h2 : 4294967296 ^ k * xs.getD k 0 ≤ 4294967296 ^ k * 4294967295 := Nat.mul_le_mul_left _ (by omega)
    omega
theorem pv_congr {xs ys : List Nat} {k : Nat} (h : ∀ i, i < k → xs.getD i 0 = ys.getD i 0) : pv xs k = pv ys k := by
  induction k with
  | zero => rfl
  | succ k ih => rw [pv, pv, ih (fun i hi => h i (by omega)), h k (by omega)]
theorem getD_set (ys : List Nat) (k y i : Nat) (hk : k < ys.length) : (ys.set k y).getD i 0 = if i = k then y else ys.getD i 0 := by
  by_cases h : i = k
  · subst h; simp [List.getD, hk]
  · have h' : k ≠ i := fun e => h e.symm
    simp [List.getD, h, h']
theorem pv_set (ys : List Nat) (k y : Nat) (hk : k < ys.length) : pv (ys.set k y) k = pv ys k :=
  pv_congr fun i hi => by rw [getD_set _ _ _ _ hk, if_neg (by omega)]
theorem getD_append (xs ys : List Nat) (i : Nat) : (xs ++ ys).getD i 0 = if i < xs.length then xs.getD i 0 else ys.getD (i - xs.length) 0 := by
  by_cases h : i < xs.length
  · simp [List.getD, h, List.getElem?_append_left h]
  · simp [List.getD, h, List.getElem?_append_right (by omega : xs.length ≤ i)]
theorem getD_zeros (n i : Nat) : (List.replicate n 0).getD i 0 = 0 := by
  simp only [List.getD, List.getElem?_replicate]
  split <;> rfl
theorem getD_big (xs : List Nat) (i : Nat) (h : xs.length ≤ i) : xs.getD i 0 = 0 := by
  simp [List.getD, List.getElem?_eq_none h]
theorem getD_drop_zeros (n k i : Nat) : ((List.replicate n 0).drop k).getD i 0 = 0 := by
  rw [List.drop_replicate]; exact getD_zeros _ _

/-- One word is changed. -/
theorem natVal_set (ys : List Nat) (k y : Nat) (hk : k < ys.length) : natVal (ys.set k y) + 4294967296 ^ k * ys.getD k 0 = natVal ys + 4294967296 ^ k * y := by
  induction ys generalizing k with
  | nil => simp at hk
  | cons a ys ih =>
    cases k with
    | zero => simp [natVal]; omega
    | succ k =>
      have := ih k (by simpa using hk)
      simp only [List.set_cons_succ, natVal, List.getD_cons_succ, Nat.pow_succ]
      grind
theorem natVal_zeros (n : Nat) : natVal (List.replicate n 0) = 0 := by
  induction n with
  | zero => rfl
  | succ n ih => rw [List.replicate_succ, natVal, ih]

/-- One step of an addition with carry. -/
theorem add_step (P A B k a b c q r : Nat) (hinv : P + 4294967296 ^ k * c = A + B) (hq : q = (a + b + c) / 4294967296) (hr : r = (a + b + c) % 4294967296) :
    P + 4294967296 ^ k * r + 4294967296 ^ (k + 1) * q = A + 4294967296 ^ k * a + (B + 4294967296 ^ k * b) := by
  have h : 4294967296 * q + r = a + b + c := by subst hq hr; omega
  have h2 : 4294967296 ^ k * (4294967296 * q + r) = 4294967296 ^ k * (a + b + c) := by rw [h]
  grind
/-- One step of a subtraction with borrow. -/
theorem sub_step (P A B k a b c q r : Nat) (hinv : P + B = A + 4294967296 ^ k * c) (h : r + b + c = a + 4294967296 * q) :
    P + 4294967296 ^ k * r + (B + 4294967296 ^ k * b) = A + 4294967296 ^ k * a + 4294967296 ^ (k + 1) * q := by
  have h2 : 4294967296 ^ k * (r + b + c) = 4294967296 ^ k * (a + 4294967296 * q) := by rw [h]
  grind
theorem borrow_eq (a b c : Nat) (ha : a < 4294967296) (hb : b < 4294967296) (hc : c ≤ 1) :
    (a + 4294967296 - b - c) % 4294967296 + b + c = a + 4294967296 * (if a < b + c then 1 else 0) := by
  split <;> omega
end Go.Proofs.YtpflfagjkmeeiaaDoor
