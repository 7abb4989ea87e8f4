/-
  cmp.Compare at int and uint32; the comparison of two naturals in package integer. At most 2^30 words each. A natural times a power of 2, in package integer. At most 2^29 words, a power of at most 2^30. A natural divided by a power of 2 less than 2^32, in package integer. At most 2^30 words.
  Long division of naturals in package integer. At most 2^28 words each, the divisor not 0. What the loops of long division keep in memory. No program beyond the type of a word.
  Plain laws that the walk of long division uses: the shifted divisor, the digits of one round, the state behind a round. Long division of naturals in package integer: the general case, a divisor of two words or more. At most 2^28 words each.
-/
import Derived.Test.YtenhciieboegbaaGreatDoorBase
import Derived.Test.YtenhciieboegbaaGreatDoorAdd
import Derived.Test.YtenhciieboegbaaGreatDoorDivW
import Derived.Deep.LoopGhost
import Derived.Deep.DeepCutAuto
import Derived.Deep.CutBlock
import Derived.Deep.QuietTactic
import Derived.Deep.RegionHeld3
import Derived.BigQuiet
namespace Go.Proofs.YtenhciieboegbaaGreatDoor
open Go Go.RowKit

/-- -1, 0 or 1. -/
def cmpI (a b : Int) : Int := if a < b then -1 else if b < a then 1 else 0
theorem cmpI_lt {a b : Int} (h : a < b) : cmpI a b = -1 := by simp [cmpI, h]
theorem cmpI_gt {a b : Int} (h : b < a) : cmpI a b = 1 := by have : ¬ a < b := by omega
                                                             simp [cmpI, h, this]
theorem cmpI_eq {a b : Int} (h : a = b) : cmpI a b = 0 := by subst h; simp [cmpI]
theorem ret_int {k : IntKind} {a b : Int} (h : a = b) : Ending.returned (.int k a) = .returned (.int k b) := by rw [h]

theorem pv_lt_of (xs ys : List Nat) (hx : ∀ i, xs.getD i 0 < 4294967296) (k : Nat) (h : xs.getD k 0 < ys.getD k 0) : ∀ m, k < m → (∀ i, k < i → xs.getD i 0 = ys.getD i 0) → pv xs m < pv ys m := by
  intro m
  induction m with
  | zero => intro h; omega
  | succ m ih =>
    intro hm he
    rw [pv, pv]
    rcases Nat.lt_or_ge k m with h1 | h1
    · have := ih h1 he
      rw [he m h1]; omega
    · obtain rfl : m = k := by omega
      have h2 := pv_lt xs hx m
      have h3 : 4294967296 ^ m * (xs.getD m 0 + 1) ≤ 4294967296 ^ m * ys.getD m 0 := Nat.mul_le_mul_left _ h
      rw [Nat.mul_add, Nat.mul_one] at h3
      omega

/-- What the loop of cmp keeps: from place k on the words are the same. -/
def SameFrom (A B : List Nat) (k : Nat) : Prop := ∀ i, k ≤ i → A.getD i 0 = B.getD i 0
theorem SameFrom.step {A B : List Nat} {k : Nat} (h : SameFrom A B (k + 1)) (he : A.getD k 0 = B.getD k 0) : SameFrom A B k := fun i hi => by
  rcases Nat.lt_or_ge k i with h1 | h1
  · exact h i h1
  · obtain rfl : i = k := by omega
    exact he
theorem SameFrom.lt {A B : List Nat} {k n : Nat} (h : SameFrom A B (k + 1)) (hA : ∀ i, A.getD i 0 < 4294967296) (hk : k < n) (ha : A.length = n) (hb : B.length = n) (hlt : A.getD k 0 < B.getD k 0) : natVal A < natVal B := by
  have := pv_lt_of A B hA k hlt n hk (fun i hi => h i hi)
  rwa [pv_all A n (Nat.le_of_eq ha), pv_all B n (Nat.le_of_eq hb)] at this
theorem SameFrom.symm {A B : List Nat} {k : Nat} (h : SameFrom A B k) : SameFrom B A k := fun i hi => (h i hi).symm
theorem SameFrom.eq {A B : List Nat} {n : Nat} (h : SameFrom A B 0) (ha : A.length = n) (hb : B.length = n) : natVal A = natVal B := by
  have := pv_congr (k := n) (fun i _ => h i (Nat.zero_le _))
  rwa [pv_all A n (Nat.le_of_eq ha), pv_all B n (Nat.le_of_eq hb)] at this

end Go.Proofs.YtenhciieboegbaaGreatDoor
namespace Go.Proofs.YtenhciieboegbaaGreatDoor
open Go Go.RowKit

end Go.Proofs.YtenhciieboegbaaGreatDoor
namespace Go.Proofs.YtenhciieboegbaaGreatDoor
open Go Go.RowKit

end Go.Proofs.YtenhciieboegbaaGreatDoor
namespace Go.Proofs.YtenhciieboegbaaGreatDoor
open Go Go.RowKit

theorem NatAt.lt {w : World} {k n cap m : Nat} {ao : Option Addr} (h : NatAt w k ao n cap m) : m < 4294967296 ^ n := by
  obtain ⟨xs, h1, h2, h3, h4⟩ := h
  have := natVal_lt xs h1.lt
  rw [h1.len, h4] at this; exact this
theorem NatAt.ge {w : World} {k n cap m : Nat} {ao : Option Addr} (h : NatAt w k ao n cap m) (hn : 0 < n) : 4294967296 ^ (n - 1) ≤ m := by
  obtain ⟨xs, h1, h2, h3, h4⟩ := h
  have := natVal_ge xs (by rw [h1.len]; exact hn) (by rw [h1.len]; exact h3 hn)
  rw [h1.len, h4] at this; exact this
/-- As many words as the value wants. -/
theorem NatAt.tight {w : World} {k k' n cap m : Nat} {ao : Option Addr} (h : NatAt w k ao n cap m) (hm : m < 4294967296 ^ k') : NatAt w k' ao n cap m := by
  have hn : n ≤ k' := by
    rcases Nat.eq_zero_or_pos n with h0 | h0
    · omega
    · have h1 := h.ge h0
      have := (Nat.pow_lt_pow_iff_right (a := 4294967296) (by omega)).1 (Nat.lt_of_le_of_lt h1 hm)
      omega
  obtain ⟨xs, h1, h2, h3⟩ := h
  exact ⟨xs, h1, hn, h3⟩
theorem NatAt.zero {w : World} {k n cap m : Nat} {ao : Option Addr} (h : NatAt w k ao n cap m) : m = 0 ↔ n = 0 := by
  constructor
  · intro hm
    rcases Nat.eq_zero_or_pos n with h0 | h0
    · exact h0
    · have := h.ge h0
      have : 0 < 4294967296 ^ (n - 1) := Nat.pos_of_ne_zero (by simp)
      omega
  · intro hn
    have := h.lt
    rw [hn] at this; simpa using this

end Go.Proofs.YtenhciieboegbaaGreatDoor
namespace Go.Proofs.YtenhciieboegbaaGreatDoor
open Go Go.RowKit

/-- The two rows of a long division: u and q. -/
structure Two (w1 : World) (gu gq N M : Nat) (us qs : List Nat) (wr : World) : Prop where
  ou : Own wr gu us
  oq : Own wr gq qs
  lu : us.length = N
  lq : qs.length = M
  wu : ∀ i, us.getD i 0 < 4294967296
  wq : ∀ i, qs.getD i 0 < 4294967296
  ne : gu ≠ gq
  hu : w1.heap.size ≤ gu
  hq : w1.heap.size ≤ gq
  ext : Ext w1 wr

end Go.Proofs.YtenhciieboegbaaGreatDoor
namespace Go.Proofs.YtenhciieboegbaaGreatDoor
open Go Go.RowKit

/-- A guess and what is left of the first two digits. -/
def Gs (q g r v1 first : Nat) : Prop := q ≤ g ∧ g * v1 + r = first
/-- What one round knows of its digits. -/
structure Digits (Nu V W q x2 x1 x0 v1 v2 T : Nat) : Prop where
  start : Gs q ((x2 * 4294967296 + x1) / v1) ((x2 * 4294967296 + x1) % v1) v1 (x2 * 4294967296 + x1)
  step : ∀ g r, Gs q g r v1 (x2 * 4294967296 + x1) → (4294967296 ≤ g ∨ r * 4294967296 + x0 < g * v2) → 1 ≤ g ∧ Gs q (g - 1) (r + v1) v1 (x2 * 4294967296 + x1)
  exit : ∀ g r, Gs q g r v1 (x2 * 4294967296 + x1) → ((g < 4294967296 ∧ g * v2 ≤ r * 4294967296 + x0) ∨ 4294967296 ≤ r) → g < 4294967296 ∧ q ≤ g ∧ g ≤ q + 1
  bound : ∀ g r, Gs q g r v1 (x2 * 4294967296 + x1) → g ≤ 8589934592
  lo : q * (V * W) ≤ Nu
  hi : Nu < (q + 1) * (V * W)
  lim : Nu < T

theorem digits (us vs : List Nat) (n2 j : Nat) (hn : 2 ≤ n2) (huw : ∀ i, us.getD i 0 < 4294967296) (hvw : ∀ i, vs.getD i 0 < 4294967296) (hvl : vs.length = n2) (htop : 2147483648 ≤ vs.getD (n2 - 1) 0)
    (hlt : natVal us < natVal vs * 4294967296 ^ (j + 1)) :
    Digits (natVal us) (natVal vs) (4294967296 ^ j) (natVal us / (natVal vs * 4294967296 ^ j)) (us.getD (j + n2) 0) (us.getD (j + n2 - 1) 0) (us.getD (j + n2 - 2) 0) (vs.getD (n2 - 1) 0) (vs.getD (n2 - 2) 0) (4294967296 ^ (j + n2 + 1)) := by
  obtain ⟨m, rfl⟩ : ∃ m, n2 = m + 2 := ⟨n2 - 2, by omega⟩
  rw [show j + (m + 2) - 1 = j + m + 1 from by omega, show j + (m + 2) - 2 = j + m from by omega, show m + 2 - 1 = m + 1 from by omega, show m + 2 - 2 = m from by omega, show j + (m + 2) = j + m + 1 + 1 from by omega] at *
  have hVl := natVal_lt vs hvw
  rw [hvl] at hVl
  have hlim : natVal us < 4294967296 ^ (j + m + 1 + 1 + 1) := by
    have h1 : natVal vs * 4294967296 ^ (j + 1) ≤ 4294967296 ^ (m + 2) * 4294967296 ^ (j + 1) := Nat.mul_le_mul_right _ (Nat.le_of_lt hVl)
    rw [← Nat.pow_add, show m + 2 + (j + 1) = j + m + 1 + 1 + 1 from by omega] at h1
    omega
  have eu := pv_zero_above us (j + m + 1 + 1 + 1) (zero_above us _ hlim)
  rw [pv, pv, pv] at eu
  have ev := pv_all vs (m + 1 + 1) (Nat.le_of_eq hvl)
  rw [pv, pv] at ev
  have hlo := pv_lt us huw (j + m)
  have hV0 := pv_lt vs hvw m
  have hx2 := huw (j + m + 1 + 1)
  have hx1 := huw (j + m + 1)
  have hx0 := huw (j + m)
  have hv2 := hvw m
  have hv1 := hvw (m + 1)
  rw [Nat.pow_add] at hlo
  have hlt2 : natVal us < natVal vs * 4294967296 ^ j * 4294967296 := by rw [Nat.mul_assoc, ← Nat.pow_succ]; exact hlt
  have hW : 0 < 4294967296 ^ j := Nat.pos_of_ne_zero (by simp)
  simp only [Nat.pow_succ, Nat.pow_add] at eu ev
  generalize us.getD (j + m + 1 + 1) 0 = x2 at *
  generalize us.getD (j + m + 1) 0 = x1 at *
  generalize us.getD (j + m) 0 = x0 at *
  generalize vs.getD (m + 1) 0 = v1 at *
  generalize vs.getD m 0 = v2 at *
  generalize pv us (j + m) = lo at *
  generalize pv vs m = V0 at *
  generalize natVal us = Nu at *
  generalize natVal vs = V at *
  generalize 4294967296 ^ j = W at *
  generalize 4294967296 ^ m = P at *
  clear hVl hlt
  have hN : Nu = lo + W * P * (x0 + 4294967296 * (x2 * 4294967296 + x1)) := by rw [← eu]; grind
  have hV : V = V0 + P * (v2 + 4294967296 * v1) := by rw [← ev]; grind
  clear eu ev
  have hP : 0 < P := by omega
  have hVpos : 0 < V := by
    have : P * 1 ≤ P * (v2 + 4294967296 * v1) := Nat.mul_le_mul_left _ (by omega)
    omega
  have hX : 0 < V * W := Nat.mul_pos hVpos hW
  have hqlo : Nu / (V * W) * (V * W) ≤ Nu := Nat.div_mul_le_self _ _
  have hqhi : Nu < (Nu / (V * W) + 1) * (V * W) := by
    have := Nat.div_add_mod Nu (V * W)
    have := Nat.mod_lt Nu hX
    rw [Nat.add_mul, Nat.one_mul, Nat.mul_comm]; omega
  have hqB := digit_lt _ _ _ hqlo hlt2
  have hx2v := first_le V W Nu lo P x0 x1 x2 v1 v2 V0 hN hlt2 hV hV0 hv2
  generalize Nu / (V * W) = q at *
  have hv1p : 0 < v1 := by omega
  refine ⟨⟨?_, ?_⟩, fun g r hg ht => ?_, fun g r hg ht => ?_, fun g r hg => ?_, hqlo, hqhi, hlim⟩
  · rw [Nat.le_div_iff_mul_le hv1p]
    exact guess_ge q V W Nu lo P x0 _ v1 v2 V0 hqlo hN hlo hx0 hV
  · rw [Nat.mul_comm]; exact Nat.div_add_mod _ _
  · obtain ⟨h1, h2⟩ := hg
    have h3 : q + 1 ≤ g := by
      rcases ht with ht | ht
      · omega
      · exact guess_dec q g r V W Nu lo P x0 _ v1 v2 V0 hqlo hN hlo hV h1 h2 ht
    obtain ⟨g', rfl⟩ : ∃ g', g = g' + 1 := ⟨g - 1, by omega⟩
    refine ⟨by omega, by omega, ?_⟩
    rw [Nat.add_sub_cancel]
    rw [Nat.add_mul, Nat.one_mul] at h2
    omega
  · obtain ⟨h1, h2⟩ := hg
    have h3 : g < 4294967296 := by
      rcases ht with ht | ht
      · exact ht.1
      · exact guess_small g r _ v1 x1 x2 h2 rfl hx1 hx2v ht
    have h4 : g * v2 ≤ r * 4294967296 + x0 := by
      rcases ht with ht | ht
      · exact ht.2
      · have := prod2_lt g v2 h3 hv2
        omega
    exact ⟨h3, h1, guess_final g q _ Nu (guess_le g r V W Nu lo P x0 _ v1 v2 V0 hN hV hV0 h2 h4 (Nat.le_of_lt h3) hv1p) hqhi⟩
  · obtain ⟨h1, h2⟩ := hg
    apply Nat.le_of_not_lt
    intro hh
    have := Nat.mul_le_mul (show 8589934593 ≤ g from hh) htop
    omega

end Go.Proofs.YtenhciieboegbaaGreatDoor
namespace Go.Proofs.YtenhciieboegbaaGreatDoor
open Go Go.RowKit

end Go.Proofs.YtenhciieboegbaaGreatDoor
