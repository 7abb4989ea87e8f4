/-
  Plain laws on words for the reference package: sums, differences, times a power of two, halves, order, long division bit by bit. No program.
  The reference package: word, size in order (reaches). Every slice of words.
-/
import Derived.Test.YtkeikfekkdplgaaGreatDoorCmp
namespace Go.Proofs.YtkeikfekkdplgaaGreatDoor

/-! ### rows that grow by one word -/
theorem snoc_getD (xs : List Nat) (y i : Nat) : (xs ++ [y]).getD i 0 = if i = xs.length then y else xs.getD i 0 := by
  rw [getD_append]
  by_cases h : i < xs.length
  · rw [if_pos h, if_neg (by omega)]
  · rw [if_neg h]
    by_cases h2 : i = xs.length
    · rw [if_pos h2, h2, Nat.sub_self]; rfl
    · rw [if_neg h2, getD_big xs i (by omega), getD_big _ _ (by simp; omega)]
theorem snoc_val (xs : List Nat) (y : Nat) : natVal (xs ++ [y]) = natVal xs + 4294967296 ^ xs.length * y := by
  rw [natVal_append]; simp [natVal]
theorem snoc_lt {xs : List Nat} {y : Nat} (hx : ∀ i, xs.getD i 0 < 4294967296) (hy : y < 4294967296) : ∀ i, (xs ++ [y]).getD i 0 < 4294967296 := by
  intro i; rw [snoc_getD]; split
  · exact hy
  · exact hx i

/-- A sum: k words are done. -/
def PlusS (A B xs : List Nat) (k c : Nat) : Prop := xs.length = k ∧ (∀ i, xs.getD i 0 < 4294967296) ∧ natVal xs + 4294967296 ^ k * c = pv A k + pv B k ∧ c ≤ 1
theorem PlusS.start (A B : List Nat) : PlusS A B [] 0 0 := ⟨rfl, fun i => by simp, by simp [natVal, pv], by omega⟩
theorem PlusS.step {A B xs : List Nat} {k c : Nat} (h : PlusS A B xs k c) (hA : ∀ i, A.getD i 0 < 4294967296) (hB : ∀ i, B.getD i 0 < 4294967296) :
    PlusS A B (xs ++ [(c + (A.getD k 0 + B.getD k 0)) % 4294967296]) (k + 1) ((c + (A.getD k 0 + B.getD k 0)) / 4294967296) := by
  obtain ⟨h1, h2, h3, h4⟩ := h
  have a := hA k
  have b := hB k
  refine ⟨by simp [h1], snoc_lt h2 (Nat.mod_lt _ (by decide)), ?_, by omega⟩
  rw [snoc_val, h1, pv, pv]
  exact add_step _ _ _ k _ _ c _ _ h3 (by congr 1; omega) (by congr 1; omega)
theorem PlusS.fin {A B xs : List Nat} {k c : Nat} (h : PlusS A B xs k c) (hA : A.length ≤ k) (hB : B.length ≤ k) : natVal (xs ++ [c]) = natVal A + natVal B ∧ (∀ i, (xs ++ [c]).getD i 0 < 4294967296) := by
  obtain ⟨h1, h2, h3, h4⟩ := h
  rw [snoc_val, h1, h3, pv_all A k hA, pv_all B k hB]
  exact ⟨rfl, snoc_lt h2 (by omega)⟩

/-- A difference: k words are done. -/
def MinusS (A B xs : List Nat) (k c : Nat) : Prop := xs.length = k ∧ (∀ i, xs.getD i 0 < 4294967296) ∧ natVal xs + pv B k = pv A k + 4294967296 ^ k * c ∧ c ≤ 1
theorem MinusS.start (A B : List Nat) : MinusS A B [] 0 0 := ⟨rfl, fun i => by simp, by simp [natVal, pv], by omega⟩
theorem MinusS.step {A B xs : List Nat} {k c : Nat} (h : MinusS A B xs k c) (hA : ∀ i, A.getD i 0 < 4294967296) (hB : ∀ i, B.getD i 0 < 4294967296) :
    MinusS A B (xs ++ [(4294967296 + A.getD k 0 - B.getD k 0 - c) % 4294967296]) (k + 1) (1 - (4294967296 + A.getD k 0 - B.getD k 0 - c) / 4294967296) := by
  obtain ⟨h1, h2, h3, h4⟩ := h
  have a := hA k
  have b := hB k
  refine ⟨by simp [h1], snoc_lt h2 (Nat.mod_lt _ (by decide)), ?_, by omega⟩
  rw [snoc_val, h1, pv, pv]
  exact sub_step _ _ _ k _ _ c _ _ h3 (by omega)
theorem minus_end (p a b q c : Nat) (h : p + b = a + q * c) (hc : c ≤ 1) (hle : b ≤ a) (hp : p < q) : p = a - b := by
  rcases Nat.eq_zero_or_pos c with h0 | h0
  · rw [h0] at h; omega
  · have : c = 1 := by omega
    rw [this] at h; omega
/-- In place: j words of ys are the difference, the others are A's. -/
def TakeS (A B ys : List Nat) (j c : Nat) : Prop := ys.length = A.length ∧ (∀ i, ys.getD i 0 < 4294967296) ∧ (∀ i, j ≤ i → ys.getD i 0 = A.getD i 0) ∧ pv ys j + pv B j = pv A j + 4294967296 ^ j * c ∧ c ≤ 1
theorem TakeS.start {A : List Nat} (B : List Nat) (hA : ∀ i, A.getD i 0 < 4294967296) : TakeS A B A 0 0 := ⟨rfl, hA, fun _ _ => rfl, by simp [pv], by omega⟩
theorem TakeS.step {A B ys : List Nat} {j c : Nat} (h : TakeS A B ys j c) (hj : j < A.length) (hA : ∀ i, A.getD i 0 < 4294967296) (hB : ∀ i, B.getD i 0 < 4294967296) :
    ys.getD j 0 = A.getD j 0 ∧ TakeS A B (ys.set j ((4294967296 + A.getD j 0 - B.getD j 0 - c) % 4294967296)) (j + 1) (1 - (4294967296 + A.getD j 0 - B.getD j 0 - c) / 4294967296) := by
  obtain ⟨h1, h2, h3, h4, h5⟩ := h
  have a := hA j
  have b := hB j
  refine ⟨h3 j (Nat.le_refl _), by simpa using h1, fun i => ?_, fun i hi => ?_, ?_, by omega⟩
  · rw [getD_set _ _ _ _ (by omega)]; split
    · omega
    · exact h2 i
  · rw [getD_set _ _ _ _ (by omega), if_neg (by omega)]; exact h3 i (by omega)
  · rw [pv, pv, pv, pv_set _ _ _ (by omega), getD_set _ _ _ _ (by omega), if_pos rfl]
    exact sub_step _ _ _ j _ _ c _ _ h4 (by omega)
theorem pv_small (B : List Nat) (k : Nat) (h : natVal B < 4294967296 ^ k) : pv B k = natVal B := by
  rcases Nat.lt_or_ge k B.length with hk | hk
  · rw [pv_take]
    have h2 := natVal_append (B.take k) (B.drop k)
    rw [List.take_append_drop, List.length_take, Nat.min_eq_left (by omega)] at h2
    rcases Nat.eq_zero_or_pos (natVal (B.drop k)) with h0 | h0
    · rw [h0] at h2; omega
    · have := Nat.le_mul_of_pos_right (4294967296 ^ k) h0
      omega
  · exact pv_all B k hk
theorem MinusS.fin {A B xs : List Nat} {k c : Nat} (h : MinusS A B xs k c) (hx : ∀ i, A.getD i 0 < 4294967296) (hA : A.length ≤ k) (hle : natVal B ≤ natVal A) : natVal xs = natVal A - natVal B := by
  obtain ⟨h1, h2, h3, h4⟩ := h
  have hl := natVal_lt A hx
  have hp : 4294967296 ^ A.length ≤ 4294967296 ^ k := Nat.pow_le_pow_right (by decide) hA
  rw [pv_all A k hA, pv_small B k (by omega)] at h3
  have := natVal_lt xs h2
  rw [h1] at this
  exact minus_end _ _ _ _ _ h3 h4 hle this

theorem TakeS.fin {A B ys : List Nat} {c : Nat} (h : TakeS A B ys A.length c) (hA : ∀ i, A.getD i 0 < 4294967296) (hle : natVal B ≤ natVal A) : natVal ys = natVal A - natVal B := by
  obtain ⟨h1, h2, h3, h4, h5⟩ := h
  have hl := natVal_lt A hA
  rw [pv_all A _ (Nat.le_refl _), pv_small B _ (by omega), pv_all ys _ (Nat.le_of_eq h1)] at h4
  have := natVal_lt ys h2
  rw [h1] at this
  exact minus_end _ _ _ _ _ h4 h5 hle this

/-- Halves, in place: j words are done. -/
def HalfS (A ys : List Nat) (j : Nat) : Prop := ys.length = A.length ∧ (∀ i, ys.getD i 0 < 4294967296) ∧ (∀ i, j ≤ i → ys.getD i 0 = A.getD i 0) ∧ 2 * pv ys j + A.getD 0 0 % 2 = pv A j + 4294967296 ^ j * (A.getD j 0 % 2)
theorem HalfS.start {A : List Nat} (hA : ∀ i, A.getD i 0 < 4294967296) : HalfS A A 0 := ⟨rfl, hA, fun _ _ => rfl, by simp [pv]⟩
theorem half_step (p P q x y a b : Nat) (h : 2 * p + a = P + q * (x % 2)) (hy : y = x / 2 + b % 2 * 2147483648) : 2 * (p + q * y) + a = P + q * x + q * 4294967296 * (b % 2) := by
  have h2 : q * (2 * y + x % 2) = q * (x + 4294967296 * (b % 2)) := by congr 1; omega
  grind
theorem HalfS.step {A ys : List Nat} {j : Nat} (h : HalfS A ys j) (hj : j < A.length) (hA : ∀ i, A.getD i 0 < 4294967296) :
    ys.getD j 0 = A.getD j 0 ∧ ys.getD (j + 1) 0 = A.getD (j + 1) 0 ∧ HalfS A (ys.set j (A.getD j 0 / 2 + A.getD (j + 1) 0 % 2 * 2147483648)) (j + 1) := by
  obtain ⟨h1, h2, h3, h4⟩ := h
  have a := hA j
  refine ⟨h3 j (Nat.le_refl _), h3 (j + 1) (by omega), by simpa using h1, fun i => ?_, fun i hi => ?_, ?_⟩
  · rw [getD_set _ _ _ _ (by omega)]; split
    · omega
    · exact h2 i
  · rw [getD_set _ _ _ _ (by omega), if_neg (by omega)]; exact h3 i (by omega)
  · rw [pv, pv, pv_set _ _ _ (by omega), getD_set _ _ _ _ (by omega), if_pos rfl, Nat.pow_succ]
    exact half_step _ _ _ _ _ _ _ h4 rfl
theorem HalfS.fin {A ys : List Nat} (h : HalfS A ys A.length) : natVal ys = natVal A / 2 := by
  obtain ⟨h1, h2, h3, h4⟩ := h
  rw [pv_all ys _ (Nat.le_of_eq h1), pv_all A _ (Nat.le_refl _), getD_big A A.length (Nat.le_refl _)] at h4
  omega

/-- Times a power of two, R = 2^k below a word: i words are done, o is what goes over. -/
def LeftS (A xs : List Nat) (q R i : Nat) : Prop := xs.length = q + i ∧ (∀ j, xs.getD j 0 < 4294967296) ∧ natVal xs + 4294967296 ^ (q + i) * ((if i = 0 then 0 else A.getD (i - 1) 0) * R / 4294967296) = 4294967296 ^ q * R * pv A i
theorem LeftS.start (A : List Nat) (q R : Nat) : LeftS A (List.replicate q 0) q R 0 := ⟨by simp, fun i => by rw [getD_zeros]; omega, by simp [pv, natVal_zeros]⟩
theorem left_step (v q i o x R y o2 P : Nat) (hv : v + 4294967296 ^ (q + i) * o = 4294967296 ^ q * R * P) (hy : y + 4294967296 * o2 = x * R + o) :
    v + 4294967296 ^ (q + i) * y + 4294967296 ^ (q + (i + 1)) * o2 = 4294967296 ^ q * R * (P + 4294967296 ^ i * x) := by
  have h2 : 4294967296 ^ (q + i) * (y + 4294967296 * o2) = 4294967296 ^ (q + i) * (x * R + o) := by rw [hy]
  rw [show q + (i + 1) = (q + i) + 1 from rfl, Nat.pow_succ]
  rw [Nat.pow_add] at *
  grind
theorem LeftS.step {A xs : List Nat} {q R i : Nat} (h : LeftS A xs q R i) (o : Nat) (ho : o = (if i = 0 then 0 else A.getD (i - 1) 0) * R / 4294967296) (hs : A.getD i 0 * R % 4294967296 + o < 4294967296) :
    LeftS A (xs ++ [A.getD i 0 * R % 4294967296 + o]) q R (i + 1) := by
  obtain ⟨h1, h2, h3⟩ := h
  refine ⟨by simp [h1]; omega, snoc_lt h2 hs, ?_⟩
  rw [← ho] at h3
  rw [if_neg (by omega), Nat.add_sub_cancel, snoc_val, h1, pv]
  refine left_step _ q i o _ R _ _ _ h3 ?_
  have := Nat.mod_add_div (A.getD i 0 * R) 4294967296
  omega
theorem LeftS.fin {A xs : List Nat} {q R : Nat} (h : LeftS A xs q R (A.length + 1)) : natVal xs = 4294967296 ^ q * R * natVal A := by
  obtain ⟨h1, h2, h3⟩ := h
  rw [if_neg (by omega), Nat.add_sub_cancel, getD_big A _ (Nat.le_refl _), Nat.zero_mul, Nat.zero_div, Nat.mul_zero, Nat.add_zero, pv_all A _ (by omega)] at h3
  exact h3

/-! ### order -/
def SameUp (A B : List Nat) (j : Nat) : Prop := ∀ i, j ≤ i → A.getD i 0 = B.getD i 0
theorem SameUp.val {A B : List Nat} {j : Nat} (h : SameUp A B j) : natVal A + pv B j = natVal B + pv A j := by
  have key : ∀ N, j ≤ N → pv A N + pv B j = pv B N + pv A j := by
    intro N hN
    induction N with
    | zero => obtain rfl : j = 0 := by omega
              simp [pv]
    | succ N ih =>
      rcases Nat.lt_or_ge N j with h1 | h1
      · obtain rfl : j = N + 1 := by omega
        omega
      · have := ih h1
        rw [pv, pv, h N h1]
        omega
  have := key (max j (max A.length B.length)) (by omega)
  rw [pv_all A (max j (max A.length B.length)) (by omega), pv_all B (max j (max A.length B.length)) (by omega)] at this
  exact this
theorem SameUp.lt {A B : List Nat} {j : Nat} (h : SameUp A B (j + 1)) (hA : ∀ i, A.getD i 0 < 4294967296) (hj : A.getD j 0 < B.getD j 0) : natVal A < natVal B := by
  have h1 := h.val
  have h2 := pv_lt A hA j
  rw [pv, pv] at h1
  have h3 : 4294967296 ^ j * (A.getD j 0 + 1) ≤ 4294967296 ^ j * B.getD j 0 := Nat.mul_le_mul_left _ hj
  rw [Nat.mul_add, Nat.mul_one] at h3
  omega
theorem SameUp.eq {A B : List Nat} (h : SameUp A B 0) : natVal A = natVal B := by
  have := h.val
  simpa [pv] using this
theorem SameUp.step {A B : List Nat} {j : Nat} (h : SameUp A B (j + 1)) (hj : A.getD j 0 = B.getD j 0) : SameUp A B j := fun i hi => by
  rcases Nat.eq_or_lt_of_le hi with h1 | h1
  · rw [← h1]; exact hj
  · exact h i h1
theorem SameUp.symm {A B : List Nat} {j : Nat} (h : SameUp A B j) : SameUp B A j := fun i hi => (h i hi).symm

/-! ### long division, bit by bit: what the loop keeps ahead of bit i - 1 (i bits are still to come) -/
def DvS (a b i n r q : Nat) : Prop := a = q * b + r ∧ r < b * 2 ^ i ∧ 2 ^ i ∣ q ∧ q < 2 ^ (n + 1) ∧ i ≤ n + 1
theorem DvS.start {a b n : Nat} (h : a < b * 2 ^ (n + 1)) : DvS a b (n + 1) n a 0 := ⟨by simp, h, Nat.dvd_zero _, Nat.pos_of_ne_zero (by simp), Nat.le_refl _⟩
theorem DvS.yes {a b i n r q : Nat} (h : DvS a b (i + 1) n r q) (hr : b * 2 ^ i ≤ r) : DvS a b i n (r - b * 2 ^ i) (q + 2 ^ i) := by
  obtain ⟨h1, h2, ⟨t, h3⟩, h4, h5⟩ := h
  rw [Nat.pow_succ] at h2 h3
  have h6 : b * (2 ^ i * 2) = b * 2 ^ i + b * 2 ^ i := by grind
  have h7 : (q + 2 ^ i) * b = q * b + b * 2 ^ i := by grind
  refine ⟨by omega, by omega, ⟨2 * t + 1, by rw [h3]; grind⟩, ?_, by omega⟩
  have e : 2 ^ (n + 1) = 2 ^ i * 2 * 2 ^ (n - i) := by rw [← Nat.pow_succ, ← Nat.pow_add]; congr 1; omega
  rw [e] at h4 ⊢
  rw [h3] at h4
  have h8 : t < 2 ^ (n - i) := Nat.lt_of_mul_lt_mul_left h4
  have h9 : 2 ^ i * 2 * (t + 1) ≤ 2 ^ i * 2 * 2 ^ (n - i) := Nat.mul_le_mul_left _ h8
  have h10 : 0 < 2 ^ i := Nat.pos_of_ne_zero (by simp)
  rw [h3]
  rw [Nat.mul_add] at h9
  omega
theorem DvS.no {a b i n r q : Nat} (h : DvS a b (i + 1) n r q) (hr : r < b * 2 ^ i) : DvS a b i n r q := by
  obtain ⟨h1, h2, h3, h4, h5⟩ := h
  exact ⟨h1, hr, Nat.dvd_trans (Nat.pow_dvd_pow 2 (Nat.le_succ i)) h3, h4, by omega⟩
theorem DvS.fin {a b n r q : Nat} (h : DvS a b 0 n r q) : q = a / b ∧ r = a % b := by
  obtain ⟨h1, h2, _⟩ := h
  rw [Nat.pow_zero, Nat.mul_one] at h2
  have hb : 0 < b := by omega
  rw [h1]
  constructor
  · rw [Nat.mul_comm, Nat.mul_add_div hb, Nat.div_eq_of_lt h2]; rfl
  · rw [Nat.mul_comm, Nat.mul_add_mod, Nat.mod_eq_of_lt h2]
/-- Word k of a row. -/
theorem word_of (xs : List Nat) (hx : ∀ i, xs.getD i 0 < 4294967296) (k : Nat) : xs.getD k 0 = natVal xs / 4294967296 ^ k % 4294967296 := by
  induction xs generalizing k with
  | nil => simp [natVal]
  | cons x xs ih =>
    have h0 := hx 0
    simp at h0
    cases k with
    | zero => simp [natVal]; omega
    | succ k =>
      rw [List.getD_cons_succ, ih (fun i => by simpa using hx (i + 1)), natVal, Nat.pow_succ, Nat.mul_comm (4294967296 ^ k), ← Nat.div_div_eq_div_mul]
      congr 2
      omega
/-- Bit i of a row of which the bits up to i are 0 is put. -/
theorem bit_put {ys : List Nat} {i : Nat} (hx : ∀ j, ys.getD j 0 < 4294967296) (hd : 2 ^ (i + 1) ∣ natVal ys) (hl : i / 32 < ys.length) :
    ∃ o : Nat, ys.getD (i / 32) 0 = o ∧ 2 ^ (i % 32 + 1) ∣ o ∧ o < 4294967296 ∧ o + 2 ^ (i % 32) < 4294967296 ∧ natVal (ys.set (i / 32) (o + 2 ^ (i % 32))) = natVal ys + 2 ^ i := by
  have hw := word_of ys hx (i / 32)
  have hB : (4294967296 : Nat) ^ (i / 32) = 2 ^ (32 * (i / 32)) := by rw [show (4294967296 : Nat) = 2 ^ 32 from rfl, ← Nat.pow_mul]
  have e1 : 2 ^ (i + 1) = 4294967296 ^ (i / 32) * 2 ^ (i % 32 + 1) := by rw [hB, ← Nat.pow_add]; congr 1; omega
  have e2 : 2 ^ i = 4294967296 ^ (i / 32) * 2 ^ (i % 32) := by rw [hB, ← Nat.pow_add]; congr 1; omega
  obtain ⟨t, ht⟩ := hd
  have hd1 : 2 ^ (i % 32 + 1) ∣ 4294967296 := by
    rw [show (4294967296 : Nat) = 2 ^ 32 from rfl]; exact Nat.pow_dvd_pow 2 (by omega)
  have hd2 : 2 ^ (i % 32 + 1) ∣ ys.getD (i / 32) 0 := by
    rw [hw, ht, e1, Nat.mul_assoc, Nat.mul_div_cancel_left _ (Nat.pos_of_ne_zero (by simp))]
    exact (Nat.dvd_mod_iff hd1).2 ⟨t, rfl⟩
  obtain ⟨o, ho⟩ : ∃ o, ys.getD (i / 32) 0 = o := ⟨_, rfl⟩
  rw [ho] at hd2
  have hol : o < 4294967296 := by rw [← ho]; exact hx _
  refine ⟨o, ho, hd2, hol, ?_, ?_⟩
  · obtain ⟨u, hu⟩ := hd2
    obtain ⟨v, hv⟩ := hd1
    rw [hv, hu] at hol
    have h8 : u < v := Nat.lt_of_mul_lt_mul_left hol
    have h9 : 2 ^ (i % 32 + 1) * (u + 1) ≤ 2 ^ (i % 32 + 1) * v := Nat.mul_le_mul_left _ h8
    rw [← hv, Nat.mul_add, ← hu, Nat.pow_succ] at h9
    have h10 : 0 < 2 ^ (i % 32) := Nat.pos_of_ne_zero (by simp)
    omega
  · have := natVal_set ys (i / 32) (o + 2 ^ (i % 32)) hl
    rw [ho, Nat.mul_add, ← e2] at this
    omega
end Go.Proofs.YtkeikfekkdplgaaGreatDoor
namespace Go.Proofs.YtkeikfekkdplgaaGreatDoor
open Go Go.RowKit

theorem word_c (w : World) (ao : Option Addr) (n cap : Nat) (xs : List Nat) (h : Wd w ao n cap xs) (i : Nat) (hi : i < 9223372036854775807) :
    Calls Tryz.prog 94 #[.slice ao n cap, .int .i64 (i : Int)] w (RSame w (.int .u64 ((xs.getD i 0 : Nat) : Int))) := by
  by_cases hl : i < n
  · rcases h.shape with h0 | ⟨b, off, rfl, hb⟩
    · omega
    · have hc := h.cell i hl
      have hx := h.lt i
      generalize xs.getD i 0 = x at *
      clear h
      go_enter Tryz.func94, Tryz.ntmps94
      go_wp2_with fail
      go_ret
      exact ⟨rfl, rfl⟩
  · have hx : xs.getD i 0 = 0 := getD_big _ _ (by rw [h.len]; omega)
    rw [hx]
    clear hx h
    go_enter Tryz.func94, Tryz.ntmps94
    go_wp2_with fail
    go_ret
    exact ⟨rfl, rfl⟩
theorem word_neg (w : World) (ao : Option Addr) (n cap : Nat) :
    Calls Tryz.prog 94 #[.slice ao n cap, .int .i64 (-1)] w (RSame w (.int .u64 0)) := by
  go_enter Tryz.func94, Tryz.ntmps94
  go_wp2_with fail
  go_ret
  exact ⟨rfl, rfl⟩

set_option maxRecDepth 100000 in
set_option maxHeartbeats 1000000 in
theorem reaches_c (w : World) (a1 a2 : Option Addr) (n1 n2 c1 c2 : Nat) (A B : List Nat) (h1 : Wd w a1 n1 c1 A) (h2 : Wd w a2 n2 c2 B) (s1 : n1 ≤ 1073741824) (s2 : n2 ≤ 1073741824) :
    Calls Tryz.prog 209 #[.slice a1 n1 c1, .slice a2 n2 c2] w (RVal w (.bool (decide (natVal B ≤ natVal A)))) := by
  have HA := hid h1.lt
  have HB := hid h2.lt
  have HW1 := hid h1
  have HW2 := hid h2
  obtain ⟨N, hN⟩ : ∃ N, N = max n1 n2 := ⟨_, rfl⟩
  have hN1 : max (n1 : Int) (n2 : Int) = (N : Int) := by omega
  have hNs : N ≤ 1073741824 := by omega
  have I0 : Hid (SameUp A B N) := fun i hi => by rw [getD_big A i (by rw [h1.len]; omega), getD_big B i (by rw [h2.len]; omega)]
  obtain ⟨r, hr⟩ : ∃ r, r = decide (natVal B ≤ natVal A) := ⟨_, rfl⟩
  rw [← hr]
  have Hr := hid hr
  clear h1 h2 hN hr
  go_enter Tryz.func209, Tryz.ntmps209
  go_wp2_with fail
  all_goals
    go_loopw [5] (fun i wr => ∃ z : Int, -1 ≤ z ∧ z < N ∧ i = .int .i64 z ∧ Hid (SameUp A B (z + 1).toNat) ∧ Ext w wr) (fun i _ => (intOf i + 1).toNat)
    case atStart => exact ⟨(N : Int) - 1, by omega, by omega, by go_must (rw [show (N : Int) = _ from hN1.symm]; try simp; try omega), by rw [show ((N : Int) - 1 + 1).toNat = N from by omega]; exact I0, Ext.refl _⟩
    case round =>
      clear I0
      obtain ⟨z, hz1, hz2, rfl, hsame, hext⟩ := hrel
      by_cases hz0 : 0 ≤ z
      · obtain ⟨j, rfl⟩ := Int.eq_ofNat_of_zero_le hz0
        have hsame' : SameUp A B (j + 1) := hsame.out
        have HC : ∀ x y : Nat, A.getD j 0 = x → B.getD j 0 = y → (x < y → r = false) ∧ (y < x → r = true) ∧ (x = y → SameUp A B j) := fun x y hx hy =>
          ⟨fun h => by rw [Hr.out]; have := hsame'.lt HA.out (by rw [hx, hy]; exact h); simp; omega, fun h => by rw [Hr.out]; have := hsame'.symm.lt HB.out (by rw [hx, hy]; exact h); simp; omega, fun h => hsame'.step (by rw [hx, hy]; exact h)⟩
        have HC := hid (HC _ _ rfl rfl)
        have W1 := hid (HW1.out.ext hext)
        have W2 := hid (HW2.out.ext hext)
        clear hsame hsame'
        have HA' := hid (word_c wr a1 n1 c1 A W1.out j (by omega))
        have HB' := hid (word_c wr a2 n2 c2 B W2.out j (by omega))
        generalize A.getD j 0 = x at HA' HC
        generalize B.getD j 0 = y at HB' HC
        have key : (x = y ∧ SameUp A B j) ∨ (¬ x = y ∧ decide (y < x) = r) := by
          rcases Nat.lt_trichotomy x y with h | h | h
          · right; refine ⟨by omega, ?_⟩; rw [HC.out.1 h]; simp; omega
          · left; exact ⟨h, HC.out.2.2 h⟩
          · right; refine ⟨by omega, ?_⟩; rw [HC.out.2.1 h]; simp; omega
        clear HC W1 W2
        rcases key with ⟨rfl, hg⟩ | ⟨hne, hg⟩
        · have hg := hid hg
          have hv : ((x : Int) != (x : Int)) = false := by simp
          go_wp2_with fail
          refine Calls.mono HA'.out ?_
          rintro e w9 ⟨rfl, rfl⟩
          go_wp2_with fail
          refine Calls.mono HB'.out ?_
          rintro e w9 ⟨rfl, rfl⟩
          go_wp2_with fail
          go_roundw
          case rel => exact ⟨(j : Int) - 1, by omega, by omega, rfl, by rw [show ((j : Int) - 1 + 1).toNat = j from by omega]; exact hg, hext⟩
          case measure => simp [intOf]
        · have hv : ((x : Int) != (y : Int)) = true := by rw [bne_iff_ne]; omega
          have Hg := hid hg
          clear hg
          go_wp2_with fail
          refine Calls.mono HA'.out ?_
          rintro e w9 ⟨rfl, rfl⟩
          go_wp2_with fail
          refine Calls.mono HB'.out ?_
          rintro e w9 ⟨rfl, rfl⟩
          go_wp2_with fail
          refine Calls.mono HA'.out ?_
          rintro e w9 ⟨rfl, rfl⟩
          go_wp2_with fail
          refine Calls.mono HB'.out ?_
          rintro e w9 ⟨rfl, rfl⟩
          go_wp2_with fail
          go_ret
          exact ⟨by rw [← Hg.out]; rfl, hext⟩
      · obtain rfl : z = -1 := by omega
        have hv : SameUp A B 0 := hsame.out
        have hg := hid (show r = true by rw [Hr.out, hv.eq]; simp)
        clear hv hsame
        go_wp2_with fail
        go_ret
        exact ⟨by rw [hg.out]; rfl, hext⟩
end Go.Proofs.YtkeikfekkdplgaaGreatDoor
