/-
  Fractions as Lean's Rat: what New, Add, Mul, Div, Cmp and Floor of package rational compute. Plain laws, no program. The simplest fraction of an interval of positive fractions, as package rational's Between finds it. Plain laws, no program.
-/
import Derived.Test.YtcgdkfadcglekaaGreatDoorBase
namespace Go.Proofs.YtcgdkfadcglekaaGreatDoor
open Go Go.RowKit

theorem rat_num_pos (n d : Int) (hd : 0 < d) : n / (Int.gcd n d : Int) = (Rat.divInt n d).num := by
  rw [Rat.num_divInt, Int.sign_eq_one_of_pos hd, Int.one_mul, Int.gcd_comm]
theorem rat_den_pos (n d : Int) (hd : 0 < d) : d / (Int.gcd n d : Int) = ((Rat.divInt n d).den : Int) := by
  rw [Rat.den_divInt, if_neg (by omega), Int.natCast_ediv, Int.gcd_comm, show (d.natAbs : Int) = d by omega]
theorem rat_num_neg (n d : Int) (hd : d < 0) : n / (-(Int.gcd n d : Int)) = (Rat.divInt n d).num := by
  rw [Rat.num_divInt, Int.sign_eq_neg_one_of_neg hd, Int.gcd_comm, Int.ediv_neg]
  have h : ((Int.gcd d n : Nat) : Int) ∣ n := Int.gcd_dvd_right d n
  rw [show -1 * n = -n by omega, Int.neg_ediv_of_dvd h]
theorem rat_den_neg (n d : Int) (hd : d < 0) : d / (-(Int.gcd n d : Int)) = ((Rat.divInt n d).den : Int) := by
  rw [Rat.den_divInt, if_neg (by omega), Int.natCast_ediv, Int.gcd_comm, Int.ediv_neg]
  have h : ((Int.gcd d n : Nat) : Int) ∣ d := Int.gcd_dvd_left d n
  rw [← Int.neg_ediv_of_dvd h, show (d.natAbs : Int) = -d by omega]
theorem rat_add (a b : Rat) : Rat.divInt (a.num * b.den + b.num * a.den) (a.den * b.den) = a + b := by
  have := Rat.divInt_add_divInt a.num b.num (d₁ := a.den) (d₂ := b.den) (by have := a.den_nz; omega) (by have := b.den_nz; omega)
  rw [Rat.num_divInt_den, Rat.num_divInt_den] at this
  rw [this]
theorem rat_floor (a : Rat) : a.num / (a.den : Int) = a.floor := (Rat.floor_def a).symm
end Go.Proofs.YtcgdkfadcglekaaGreatDoor
namespace Go.Proofs.YtcgdkfadcglekaaGreatDoor
open Go Go.RowKit

/-- The simplest fraction from n1/d1 to n2/d2. -/
def smp : Nat → Nat → Nat → Nat → Nat → Nat × Nat
  | 0, n1, d1, _, _ => (n1, d1)
  | m + 1, n1, d1, n2, d2 =>
    if n1 % d1 = 0 then (n1 / d1, 1)
    else if (n1 / d1 + 1) * d2 ≤ n2 then (n1 / d1 + 1, 1)
    else let r := smp m d2 (n2 - n1 / d1 * d2) d1 (n1 % d1)
      (n1 / d1 * r.1 + r.2, r.1)

/-- What is known of the answer (p, q): in the interval, in lowest terms, and below all others. -/
structure Smp (n1 d1 n2 d2 p q : Nat) : Prop where
  p0 : 0 < p
  q0 : 0 < q
  lo : n1 * q ≤ p * d1
  hi : p * d2 ≤ n2 * q
  co : Nat.gcd p q = 1
  least : ∀ n d, 0 < d → n1 * d ≤ n * d1 → n * d2 ≤ n2 * d → q ≤ d ∧ p ≤ n

/-- One step: the parts behind the whole number f. -/
theorem smp_step {n1 d1 n2 d2 f r1 r2 : Nat} (h2 : 0 < d2) (e1 : n1 = f * d1 + r1) (e2 : n2 = f * d2 + r2) (k1 : 0 < r1) (hle : n1 * d2 ≤ n2 * d1) :
    0 < r2 ∧ d2 * r1 ≤ d1 * r2 := by
  subst e1; subst e2
  have e : r1 * d2 ≤ r2 * d1 := by
    rw [Nat.add_mul, Nat.add_mul] at hle
    have : f * d1 * d2 = f * d2 * d1 := by rw [Nat.mul_assoc, Nat.mul_comm d1 d2, ← Nat.mul_assoc]
    omega
  refine ⟨Nat.pos_of_ne_zero fun h => ?_, by rw [Nat.mul_comm d2, Nat.mul_comm d1]; exact e⟩
  subst h
  have : 0 < r1 * d2 := Nat.mul_pos k1 h2
  omega
theorem Smp.step {n1 d1 n2 d2 f r1 r2 p q : Nat} (h1 : 0 < d1) (e1 : n1 = f * d1 + r1) (e2 : n2 = f * d2 + r2) (k1 : 0 < r1) (h : Smp d2 r2 d1 r1 p q) : Smp n1 d1 n2 d2 (f * p + q) p := by
  subst e1; subst e2
  refine ⟨by have := h.q0; omega, h.p0, ?_, ?_, ?_, fun n d hd ha hb => ?_⟩
  · have := h.hi
    have e : (f * d1 + r1) * p = f * p * d1 + r1 * p := by rw [Nat.add_mul, Nat.mul_assoc, Nat.mul_comm d1 p, ← Nat.mul_assoc]
    have e' : (f * p + q) * d1 = f * p * d1 + q * d1 := Nat.add_mul ..
    have e3 : p * r1 = r1 * p := Nat.mul_comm ..
    have e4 : d1 * q = q * d1 := Nat.mul_comm ..
    omega
  · have := h.lo
    have e : (f * d2 + r2) * p = f * p * d2 + r2 * p := by rw [Nat.add_mul, Nat.mul_assoc, Nat.mul_comm d2 p, ← Nat.mul_assoc]
    have e' : (f * p + q) * d2 = f * p * d2 + q * d2 := Nat.add_mul ..
    have e3 : p * r2 = r2 * p := Nat.mul_comm ..
    have e4 : d2 * q = q * d2 := Nat.mul_comm ..
    omega
  · rw [Nat.gcd_comm, Nat.gcd_mul_right_add_right]
    exact h.co
  · have e : (f * d1 + r1) * d = f * d * d1 + r1 * d := by rw [Nat.add_mul, Nat.mul_assoc, Nat.mul_comm d1 d, ← Nat.mul_assoc]
    have e' : (f * d2 + r2) * d = f * d * d2 + r2 * d := by rw [Nat.add_mul, Nat.mul_assoc, Nat.mul_comm d2 d, ← Nat.mul_assoc]
    have hfd : f * d ≤ n := Nat.le_of_mul_le_mul_right (by omega : f * d * d1 ≤ n * d1) h1
    obtain ⟨m, rfl⟩ : ∃ m, n = f * d + m := ⟨n - f * d, by omega⟩
    have e3 : (f * d + m) * d1 = f * d * d1 + m * d1 := Nat.add_mul ..
    have e4 : (f * d + m) * d2 = f * d * d2 + m * d2 := Nat.add_mul ..
    have hm : 0 < m := Nat.pos_of_ne_zero fun hm => by
      subst hm
      have : 0 < r1 * d := Nat.mul_pos k1 hd
      omega
    have := h.least d m hm (by rw [Nat.mul_comm d2, Nat.mul_comm d]; omega) (by rw [Nat.mul_comm d, Nat.mul_comm d1]; omega)
    refine ⟨this.2, ?_⟩
    have := Nat.mul_le_mul_left f this.2
    omega

theorem smp_ok : ∀ (m n1 d1 n2 d2 : Nat), 0 < n1 → 0 < d1 → 0 < d2 → n1 * d2 ≤ n2 * d1 → d1 + d2 < m → Smp n1 d1 n2 d2 (smp m n1 d1 n2 d2).1 (smp m n1 d1 n2 d2).2 := by
  intro m
  induction m with
  | zero => intros; omega
  | succ m ih =>
    intro n1 d1 n2 d2 hn h1 h2 hle hm
    have hdm : n1 = n1 / d1 * d1 + n1 % d1 := by rw [Nat.mul_comm]; exact (Nat.div_add_mod n1 d1).symm
    have hlt := Nat.mod_lt n1 h1
    unfold smp
    by_cases h0 : n1 % d1 = 0
    · rw [if_pos h0]
      rw [h0, Nat.add_zero] at hdm
      generalize n1 / d1 = f at hdm
      subst hdm
      have hf : 0 < f := Nat.pos_of_mul_pos_right hn
      refine ⟨hf, by simp, by simp, ?_, Nat.gcd_one_right _, fun n d hd ha hb => ⟨hd, ?_⟩⟩
      · show f * d2 ≤ n2 * 1
        rw [Nat.mul_one]
        refine Nat.le_of_mul_le_mul_right (?_ : f * d2 * d1 ≤ n2 * d1) h1
        rw [Nat.mul_assoc, Nat.mul_comm d2 d1, ← Nat.mul_assoc]; exact hle
      · show f ≤ n
        have : f * d ≤ n := Nat.le_of_mul_le_mul_right (by rw [Nat.mul_assoc, Nat.mul_comm d d1, ← Nat.mul_assoc]; exact ha : f * d * d1 ≤ n * d1) h1
        exact Nat.le_trans (Nat.le_mul_of_pos_right f hd) this
    · rw [if_neg h0]
      have k1 : 0 < n1 % d1 := Nat.pos_of_ne_zero h0
      generalize hf : n1 / d1 = f at *
      generalize hr : n1 % d1 = r1 at *
      by_cases hup : (f + 1) * d2 ≤ n2
      · rw [if_pos hup]
        refine ⟨by simp, by simp, ?_, by simpa using hup, Nat.gcd_one_right _, fun n d hd ha hb => ⟨hd, ?_⟩⟩
        · show n1 * 1 ≤ (f + 1) * d1
          rw [Nat.add_mul]; omega
        · show f + 1 ≤ n
          have e : n1 * d = f * d * d1 + r1 * d := by rw [hdm, Nat.add_mul, Nat.mul_assoc, Nat.mul_comm d1 d, ← Nat.mul_assoc]
          have : 0 < r1 * d := Nat.mul_pos k1 hd
          have h3 : f * d < n := Nat.lt_of_mul_lt_mul_right (by omega : f * d * d1 < n * d1)
          have := Nat.le_mul_of_pos_right f hd
          omega
      · rw [if_neg hup]
        have hfd : f * d2 ≤ n2 := by
          refine Nat.le_of_mul_le_mul_right (?_ : f * d2 * d1 ≤ n2 * d1) h1
          refine Nat.le_trans ?_ hle
          rw [Nat.mul_assoc, Nat.mul_comm d2 d1, ← Nat.mul_assoc]
          exact Nat.mul_le_mul_right _ (by omega)
        have e2 : n2 = f * d2 + (n2 - f * d2) := by omega
        have hr2 : n2 - f * d2 < d2 := by rw [Nat.add_mul] at hup; omega
        obtain ⟨g1, g2⟩ := smp_step h2 hdm e2 k1 hle
        exact Smp.step h1 hdm e2 k1 (ih d2 (n2 - f * d2) d1 r1 h2 g1 k1 g2 (by omega))

/-- A fraction of two counts. -/
def frac (n d : Nat) : Rat := Rat.divInt n d
theorem frac_num {n d : Nat} (h : Nat.gcd n d = 1) (hd : 0 < d) : (frac n d).num = n := by
  unfold frac
  rw [Rat.num_divInt, Int.sign_eq_one_of_pos (by omega), Int.one_mul, Int.gcd_comm]
  unfold Int.gcd
  rw [Int.natAbs_natCast, Int.natAbs_natCast, h]
  exact Int.ediv_one _
theorem frac_den {n d : Nat} (h : Nat.gcd n d = 1) (hd : 0 < d) : ((frac n d).den : Int) = d := by
  unfold frac
  rw [Rat.den_divInt, if_neg (by omega), Int.gcd_comm]
  unfold Int.gcd
  rw [Int.natAbs_natCast, Int.natAbs_natCast, h, Nat.div_one]
theorem frac_floor {n d : Nat} (h : Nat.gcd n d = 1) (hd : 0 < d) : (frac n d).floor = ((n / d : Nat) : Int) := by
  rw [Rat.floor_def, frac_num h hd, frac_den h hd, Int.natCast_ediv]
theorem rat_int (f : Int) : (f : Rat) = Rat.divInt f 1 := (Rat.ext (by simp [Rat.num_divInt]) (by simp [Rat.den_divInt]))
/-- A fraction without a whole number. -/
theorem frac_sub {n d f : Nat} (hd : 0 < d) (hf : f * d ≤ n) : frac n d - (((f : Nat) : Int) : Rat) = frac (n - f * d) d := by
  unfold frac
  rw [rat_int, Rat.divInt_sub_divInt _ _ (by omega) (by decide), Int.mul_one, Int.mul_one]
  congr 1
  rw [Int.natCast_sub hf, Int.natCast_mul]
theorem frac_add {p q f : Nat} (hp : 0 < p) : (((f : Nat) : Int) : Rat) + frac q p = frac (f * p + q) p := by
  unfold frac
  rw [rat_int, Rat.divInt_add_divInt _ _ (by decide) (by omega), Int.mul_one, Int.one_mul]
  congr 1
theorem gcd_sub {n d f : Nat} (h : Nat.gcd n d = 1) (hf : f * d ≤ n) : Nat.gcd (n - f * d) d = 1 := by
  obtain ⟨r, rfl⟩ : ∃ r, n = f * d + r := ⟨n - f * d, by omega⟩
  rw [Nat.add_sub_cancel_left]
  rw [Nat.gcd_comm, Nat.gcd_mul_right_add_right] at h
  rw [Nat.gcd_comm]
  exact h
/-- Where the fractions are positive: the pairs of the step. -/
theorem Smp.num_le {n1 d1 n2 d2 p q : Nat} (h : Smp n1 d1 n2 d2 p q) (h1 : 0 < d1) (hle : n1 * d2 ≤ n2 * d1) : p ≤ n1 ∧ q ≤ d1 := by
  have := h.least n1 d1 h1 (Nat.le_refl _) hle
  exact ⟨this.2, this.1⟩
/-- The simplest fraction from a to b, where a ≤ b. -/
def btwQ (a b : Rat) : Rat :=
  if 0 < a.num then let r := smp (a.den + b.den + 1) a.num.toNat a.den b.num.toNat b.den; frac r.1 r.2
  else if b.num < 0 then let r := smp (b.den + a.den + 1) (-b.num).toNat b.den (-a.num).toNat a.den; -frac r.1 r.2
  else 0
theorem le_smp {a b : Rat} (ha : 0 < a.num) (hab : a ≤ b) : a.num.toNat * b.den ≤ b.num.toNat * a.den ∧ 0 < b.num := by
  have h := (Rat.le_iff a b).1 hab
  have ha' : 0 < a.num * (b.den : Int) := Int.mul_pos ha (by have := b.den_pos; omega)
  have hb : 0 < b.num := by
    refine Int.not_le.1 fun hb => ?_
    have := Int.mul_nonpos_of_nonpos_of_nonneg hb (show (0 : Int) ≤ (a.den : Int) by omega)
    omega
  refine ⟨?_, hb⟩
  have e1 : (a.num.toNat : Int) = a.num := Int.toNat_of_nonneg (by omega)
  have e2 : (b.num.toNat : Int) = b.num := Int.toNat_of_nonneg (by omega)
  rw [← e1, ← e2] at h
  exact_mod_cast h
theorem le_neg {a b : Rat} (hab : a ≤ b) : -b ≤ -a := Rat.neg_le_neg hab
theorem ba_loop (b : ByteArray) : ∀ (n i : Nat) (r : List UInt8), b.size - i = n → ByteArray.toList.loop b i r = r.reverse ++ b.data.toList.drop i
  | 0, i, r, h => by
    have hs : b.data.toList.length ≤ i := by show b.data.size ≤ i; have : b.data.size - i = 0 := h; omega
    rw [ByteArray.toList.loop, if_neg (by omega), List.drop_eq_nil_of_le hs, List.append_nil]
  | n + 1, i, r, h => by
    have hi : i < b.data.toList.length := by show i < b.data.size; have : b.data.size - i = n + 1 := h; omega
    rw [ByteArray.toList.loop, if_pos (by omega), ba_loop b n (i + 1) _ (by omega), List.drop_eq_getElem_cons hi, List.reverse_cons, List.append_assoc]
    rw [show b.get! i = b.data.toList[i] from getElem!_pos b.data i hi]; rfl
theorem ba_list (b : ByteArray) : b.toList = b.data.toList := by
  unfold ByteArray.toList
  rw [ba_loop _ _ 0 [] rfl]; rfl
theorem ba_ext {a b : ByteArray} (h : a.data.toList = b.data.toList) : a = b := ByteArray.ext (Array.toList_inj.1 h)
end Go.Proofs.YtcgdkfadcglekaaGreatDoor
