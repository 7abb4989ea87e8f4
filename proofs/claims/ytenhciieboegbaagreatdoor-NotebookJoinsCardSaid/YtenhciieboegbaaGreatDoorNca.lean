/-
  Strings put one behind another; texts and their lengths.
-/
import Derived.Test.YtenhciieboegbaaGreatDoorNrt
import Derived.Test.YtenhciieboegbaaGreatDoorText
namespace Go.Proofs.YtenhciieboegbaaGreatDoor
open Go Go.RowKit
theorem encS_cat (s t : List UInt8) : (⟨s.toArray⟩ : ByteArray) ++ ⟨t.toArray⟩ = ⟨(s ++ t).toArray⟩ := by
  apply ByteArray.ext
  simp
theorem cat_run {P : Program} (x y : Operand) (s t : List UInt8) (T : Nat) (h : s.length + t.length ≤ 4611686018427387904) (w : World) : Sem.run P (do eqGuard .add T x y (encS s) (encS t); binOp .add T (encS s) (encS t)) w = .ok (encS (s ++ t)) w := by
  have h1 : ¬ (9223372036854775807 : Int) < (((⟨s.toArray⟩ : ByteArray).size + (⟨t.toArray⟩ : ByteArray).size : Nat) : Int) := by
    have e1 : (⟨s.toArray⟩ : ByteArray).size = s.length := by simp [ByteArray.size]
    have e2 : (⟨t.toArray⟩ : ByteArray).size = t.length := by simp [ByteArray.size]
    omega
  unfold encS
  rw [← encS_cat]
  go_simp
  omega
section
variable {P : Program} {ops : Array Oper} {Q : Exit → Act → World → Prop} {ds : List (Option Tmp)} {a0 : Act} {w0 : World} {L : List (Value → World → Prop)} {boxes : List Nat} {i k : Nat} {o : Oper} {os : List Oper}
theorem ct {x y : Operand} {T T2 : Nat} {s t : List UInt8} (hx : Od ops ds a0 w0 L i x (IsV (encS s))) (hy : Od ops ds a0 w0 L i y (IsV (encS t))) (h : s.length + t.length ≤ 4611686018427387904) (ho : o.op = .binOp .add T x y T2 := by rfl) (hi : L.getD i (fun _ _ => True) = IsV (encS (s ++ t)) := by kernel_rfl) (hb : boxes.contains i = false := by kernel_rfl) : Ok P ops Q ds a0 w0 L boxes i o :=
  bn hx hy ho (cat_run x y s t T h) hi hb
/-- strconv.Itoa. -/
theorem cIt {c : Call} {x : Operand} {z : Int} (hx : Od ops ds a0 w0 L i x (IsV (.int .i64 z))) (h0 : -9223372036854775808 ≤ z) (h1 : z ≤ 9223372036854775807) (ht : ∀ w, Ext w0 w → Tab w)
    (ho : o.op = .call c := by rfl) (hc : c.callee = .value (.func 50) := by rfl) (ha : c.args = #[x] := by rfl) (hi : L.getD i (fun _ _ => True) = IsV (encS (Lib.itoa z)) := by kernel_rfl) (hb : boxes.contains i = false := by kernel_rfl) : Ok Tryz.prog ops Q ds a0 w0 L boxes i o :=
  cl1 (Χ := IsV (encS (Lib.itoa z))) (en Tryz.func50) hx (fun x0 w' hE d0 => by
    obtain rfl : x0 = .int .i64 z := d0
    refine Calls.mono (Tryz.strconv_Itoa z h0 h1 w' (ht w' hE)) ?_
    rintro e w2 ⟨rfl, kk, os, hw2⟩
    exact ⟨_, rfl, hw2 ▸ ext_grow w' kk os, rfl⟩) ho hc ha hi hb
end
/-! ### Right nodes, case by case -/
theorem ok_cases {b : Sc} {x : Nd} (h : okN b x = true) :
    (x.op = 1 ∧ x.v.natAbs < 2 ^ 256 ∧ x.ps = []) ∨ ((x.op = 2 ∨ x.op = 11) ∧ nameB x.nm = true ∧ x.ps = []) ∨ (x.op = 3 ∧ patB b x.nm = true ∧ 0 ≤ x.n ∧ x.n ≤ 63 ∧ x.ps = []) ∨
    ((x.op = 9 ∨ x.op = 10) ∧ nameB x.nm = true ∧ -1000000 ≤ x.lo ∧ x.lo ≤ x.hi ∧ x.hi ≤ 1000000 ∧ ∃ a, x.ps = [a]) ∨ ((x.op = 4 ∨ x.op = 5 ∨ x.op = 6 ∨ x.op = 7 ∨ x.op = 8 ∨ x.op = 12 ∨ x.op = 13) ∧ ∃ a c, x.ps = [a, c]) := by
  unfold okN okF at h
  by_cases h1 : x.op = 1
  · rw [if_pos h1] at h
    simp only [Bool.and_eq_true, decide_eq_true_eq, List.length_eq_zero_iff] at h
    exact .inl ⟨h1, h.1, h.2.2⟩
  rw [if_neg h1] at h
  by_cases h2 : x.op = 2
  · rw [if_pos h2] at h
    simp only [Bool.and_eq_true, decide_eq_true_eq, List.length_eq_zero_iff] at h
    exact .inr (.inl ⟨.inl h2, h.1.1, h.2.2⟩)
  rw [if_neg h2] at h
  by_cases h3 : x.op = 11
  · rw [if_pos h3] at h
    simp only [Bool.and_eq_true, decide_eq_true_eq, List.length_eq_zero_iff] at h
    exact .inr (.inl ⟨.inr h3, h.1.1, h.2.2⟩)
  rw [if_neg h3] at h
  by_cases h4 : x.op = 3
  · rw [if_pos h4] at h
    simp only [Bool.and_eq_true, decide_eq_true_eq, List.length_eq_zero_iff] at h
    exact .inr (.inr (.inl ⟨h4, h.1.1.1, h.1.1.2, h.1.2, h.2.2⟩))
  rw [if_neg h4] at h
  by_cases h5 : bindO x.op = true
  · rw [if_pos h5] at h
    simp only [bindO, Bool.or_eq_true, decide_eq_true_eq] at h5
    simp only [Bool.and_eq_true, decide_eq_true_eq] at h
    exact .inr (.inr (.inr (.inl ⟨h5, h.1.1.1.1.1, h.1.1.1.1.2, h.1.1.1.2, h.1.1.2, List.length_eq_one_iff.1 h.2.2⟩)))
  rw [if_neg h5] at h
  by_cases h6 : joinO x.op = true
  · rw [if_pos h6] at h
    simp only [joinO, Bool.or_eq_true, decide_eq_true_eq] at h6
    simp only [Bool.and_eq_true, decide_eq_true_eq] at h
    refine .inr (.inr (.inr (.inr ⟨by omega, ?_⟩)))
    have hl := h.2
    generalize x.ps = l at hl
    match l, hl with
    | [a, c], _ => exact ⟨a, c, rfl⟩
  · rw [if_neg h6] at h; exact absurd h (by decide)
theorem pat_len {b : Sc} {s : List UInt8} (h : patB b s = true) : s.length ≤ 60 := by
  simp only [patB, Bool.and_eq_true, decide_eq_true_eq] at h
  exact h.1.2
theorem itoa_lenK {z : Int} (k : Nat) (h : z.natAbs < 10 ^ k) (hk : 0 < k) : (Lib.itoa z).length ≤ k + 1 := by
  by_cases hn : z < 0
  · rw [Lib.itoa, if_pos hn, List.length_cons]
    exact Nat.succ_le_succ (dec_len10 _ k h hk)
  · have : Lib.itoa z = Lib.decDigits z.natAbs := by rw [Lib.itoa, if_neg hn]; congr 1; omega
    rw [this]
    exact Nat.le_succ_of_le (dec_len10 _ k h hk)
theorem sz_parts {k : Nat} {b : Sc} {x : Nd} (h : szN (k + 1) b x ≠ 0) : okN b x = true ∧ ∀ a ∈ x.ps, szN k (inS b x) a ≠ 0 := by
  rw [szN] at h
  by_cases hok : okN b x = true
  · rw [if_pos hok] at h
    exact ⟨hok, szL_all h⟩
  · rw [if_neg hok] at h; exact absurd rfl h
theorem sh_1 {k : Nat} {x : Nd} (h : x.op = 1) : shN (k + 1) x = Lib.itoa x.v := by show shF _ _ _ _ _ _ _ _ = _; unfold shF; rw [if_pos h]
theorem sh_2 {k : Nat} {x : Nd} (h : x.op = 2 ∨ x.op = 11) : shN (k + 1) x = x.nm := by show shF _ _ _ _ _ _ _ _ = _; unfold shF; rw [if_neg (by omega), if_pos h]
theorem sh_3 {k : Nat} {x : Nd} (h : x.op = 3) : shN (k + 1) x = wVal ++ [40, 34] ++ x.nm ++ [34, 44, 32] ++ Lib.itoa x.n ++ [41] := by show shF _ _ _ _ _ _ _ _ = _; unfold shF; rw [if_neg (by omega), if_neg (by omega), if_pos h]
theorem sh_b {k : Nat} {x : Nd} {a : Nd} (h : x.op = 9 ∨ x.op = 10) (hp : x.ps = [a]) : shN (k + 1) x = opW x.op ++ [40] ++ x.nm ++ [44, 32] ++ Lib.itoa x.lo ++ [44, 32] ++ Lib.itoa x.hi ++ [44, 32] ++ shN k a ++ [41] := by
  show shF _ _ _ _ _ _ _ _ = _
  unfold shF
  rw [if_neg (by omega), if_neg (by omega), if_neg (by omega), hp]
theorem sh_i {k : Nat} {x : Nd} {a c : Nd} (h : x.op = 4 ∨ x.op = 5 ∨ x.op = 6) (hp : x.ps = [a, c]) : shN (k + 1) x = [40] ++ shN k a ++ [32] ++ opW x.op ++ [32] ++ shN k c ++ [41] := by
  show shF _ _ _ _ _ _ _ _ = _
  unfold shF
  rw [if_neg (by omega), if_neg (by omega), if_neg (by omega), hp]
  simp only [if_pos h]
theorem sh_j {k : Nat} {x : Nd} {a c : Nd} (h : x.op = 7 ∨ x.op = 8 ∨ x.op = 12 ∨ x.op = 13) (hp : x.ps = [a, c]) : shN (k + 1) x = opW x.op ++ [40] ++ shN k a ++ [44, 32] ++ shN k c ++ [41] := by
  show shF _ _ _ _ _ _ _ _ = _
  unfold shF
  rw [if_neg (by omega), if_neg (by omega), if_neg (by omega), hp]
  simp only [if_neg (show ¬ (x.op = 4 ∨ x.op = 5 ∨ x.op = 6) by omega)]
theorem sh_len : ∀ (k : Nat) (b : Sc) (x : Nd), szN k b x ≠ 0 → (shN k x).length ≤ 100 * 3 ^ k := by
  intro k
  induction k with
  | zero => intro b x h; exact absurd rfl h
  | succ k ih =>
    intro b x h
    obtain ⟨hok, hall⟩ := sz_parts h
    have h3 : 100 * 3 ^ (k + 1) = 3 * (100 * 3 ^ k) := by rw [Nat.pow_succ]; omega
    have h4 : 1 ≤ 3 ^ k := Nat.pow_pos (by decide)
    have hw := opW_len x.op
    rcases ok_cases hok with ⟨h1, hv, -⟩ | ⟨h1, hn, -⟩ | ⟨h1, hn, h2, h5, -⟩ | ⟨h1, hn, h2, h5, h6, a, hp⟩ | ⟨h1, a, c, hp⟩
    · rw [sh_1 h1]
      have := itoa_lenK (z := x.v) 78 (Nat.lt_of_lt_of_le hv (by decide)) (by decide)
      omega
    · rw [sh_2 h1]
      have := name_len hn
      omega
    · rw [sh_3 h1]
      have q1 := pat_len hn
      have q2 := itoa_lenK (z := x.n) 2 (Nat.lt_of_le_of_lt (show x.n.natAbs ≤ 63 by omega) (by decide)) (by decide)
      simp only [List.length_append, List.length_cons, List.length_nil, show wVal.length = 5 from rfl]
      omega
    · rw [sh_b h1 hp]
      have q1 := name_len hn
      have q2 := itoa_lenK (z := x.lo) 7 (Nat.lt_of_le_of_lt (show x.lo.natAbs ≤ 1000000 by omega) (by decide)) (by decide)
      have q3 := itoa_lenK (z := x.hi) 7 (Nat.lt_of_le_of_lt (show x.hi.natAbs ≤ 1000000 by omega) (by decide)) (by decide)
      have q4 := ih _ a (hall a (by rw [hp]; simp))
      simp only [List.length_append, List.length_cons, List.length_nil]
      omega
    · have q4 := ih _ a (hall a (by rw [hp]; simp))
      have q5 := ih _ c (hall c (by rw [hp]; simp))
      by_cases h6 : x.op = 4 ∨ x.op = 5 ∨ x.op = 6
      · rw [sh_i h6 hp]
        simp only [List.length_append, List.length_cons, List.length_nil]
        omega
      · rw [sh_j (by omega) hp]
        simp only [List.length_append, List.length_cons, List.length_nil]
        omega
end Go.Proofs.YtenhciieboegbaaGreatDoor
