/-
 Plain laws that the walk of long division uses: the shifted divisor, the digits of one round, the state behind a round. Long division of naturals in package integer: the general case, a divisor of two words or more. At most 2^28 words each.
-/
import Derived.Test.YtkeikfekkdplgaaGreatDoorDiv
import Derived.Deep.LoopGhost
import Derived.Deep.DeepCutAuto
import Derived.Deep.CutBlock
import Derived.Deep.QuietTactic
import Derived.Deep.RegionHeld3
import Derived.BigQuiet
namespace Go.Proofs.YtkeikfekkdplgaaGreatDoor
open Go Go.RowKit

/-- The divisor, shifted: as many words as before, the first bit set. -/
theorem shifted_len {w : World} {k n cap m y n2 : Nat} {ao : Option Addr} (h : NatAt w k ao n cap (m * 2 ^ y)) (hn2 : 0 < n2) (h1 : 4294967296 ^ (n2 - 1) ≤ m * 2 ^ y) (h2 : m * 2 ^ y < 4294967296 ^ n2) : n = n2 := by
 have a := (h.tight h2).le
 rcases Nat.eq_zero_or_pos n with h0 | h0
 ·have := (h.zero).2 h0
  have : 0 < 4294967296 ^ (n2 - 1) := Nat.pos_of_ne_zero (by simp)
  omega
 ·have b := (Nat.pow_lt_pow_iff_right (a := 4294967296) (by omega)).1 (Nat.lt_of_le_of_lt h1 h.lt)
  omega

theorem divShift (y n2 : Nat) (ys : List Nat) (hy : natVal ys = y) (hyl : ys.length = n2) (hyw : ∀ i, ys.getD i 0 < 4294967296) (hn : 2 ≤ n2) (hz : ys.getD (n2 - 1) 0 ≠ 0) :
  4294967296 ^ (n2 - 1) * 2147483648 ≤ y * 2 ^ lz (ys.getD (n2 - 1) 0) ∧ y * 2 ^ lz (ys.getD (n2 - 1) 0) < 4294967296 ^ n2 := by
 obtain ⟨m, rfl⟩ : ∃ m, n2 = m + 1 := ⟨n2 - 1, by omega⟩
 simp only [Nat.add_sub_cancel] at *
 obtain ⟨a, b, c⟩ := lz_bounds _ hz (hyw m)
 have e := pv_all ys (m + 1) (Nat.le_of_eq hyl)
 have l := pv_lt ys hyw m
 rw [pv, hy] at e
 generalize ys.getD m 0 = t at *
 generalize hR : 2 ^ lz t = R at *
 have hdvd : ∃ d, 4294967296 = d * R := by rw [← hR]; exact pow32 _ (by omega)
 obtain ⟨d, hd⟩ := hdvd
 have hR0 : 0 < R := by rw [← hR]; exact Nat.pos_of_ne_zero (by simp)
 have htd : t < d := by
  rw [hd] at c
  exact Nat.lt_of_mul_lt_mul_right c
 constructor
 ·rw [← e, Nat.add_mul, Nat.mul_assoc]
  have := Nat.mul_le_mul_left (4294967296 ^ m) b
  omega
 ·have h1 : y < 4294967296 ^ m * (t + 1) := by rw [Nat.mul_add, Nat.mul_one]; omega
  have h2 : 4294967296 ^ m * (t + 1) ≤ 4294967296 ^ m * d := Nat.mul_le_mul_left _ htd
  have h3 : y * R < 4294967296 ^ m * d * R := Nat.mul_lt_mul_of_pos_right (by omega) hR0
  rw [Nat.mul_assoc, ← hd, ← Nat.pow_succ] at h3
  exact h3

/-- All that the loops know of the numbers. -/
structure DivNums (x y s n1 n2 : Nat) (vs : List Nat) : Prop where
 v : natVal vs = y * 2 ^ s
 len : vs.length = n2
 words : ∀ i, vs.getD i 0 < 4294967296
 top : 2147483648 ≤ vs.getD (n2 - 1) 0
 start : x * 2 ^ s < natVal vs * 4294967296 ^ (n1 + 1 - n2)

theorem divNums (x y s n1 n2 : Nat) (vs : List Nat) (hlo : 4294967296 ^ (n2 - 1) * 2147483648 ≤ y * 2 ^ s) (hylo : 4294967296 ^ (n2 - 1) ≤ y) (hn : 2 ≤ n2) (hx : x < 4294967296 ^ n1) (hn12 : n2 ≤ n1)
  (hv : natVal vs = y * 2 ^ s) (hvl : vs.length = n2) (hvw : ∀ i, vs.getD i 0 < 4294967296) : DivNums x y s n1 n2 vs := by
 obtain ⟨m, rfl⟩ : ∃ m, n2 = m + 1 := ⟨n2 - 1, by omega⟩
 simp only [Nat.add_sub_cancel] at *
 refine ⟨hv, hvl, hvw, ?_, ?_⟩
 ·have e := pv_all vs (m + 1) (Nat.le_of_eq hvl)
  have l := pv_lt vs hvw m
  rw [pv, hv] at e
  apply Nat.le_of_not_lt
  intro hh
  simp only [Nat.add_sub_cancel] at hh
  have := Nat.mul_le_mul_left (4294967296 ^ m) (show vs.getD m 0 + 1 ≤ 2147483648 from hh)
  rw [Nat.mul_add, Nat.mul_one] at this
  omega
 ·have h1 : 4294967296 ^ n1 ≤ y * 4294967296 ^ (n1 + 1 - (m + 1)) := by
   have h := Nat.mul_le_mul_right (4294967296 ^ (n1 + 1 - (m + 1))) hylo
   rw [← Nat.pow_add, show m + (n1 + 1 - (m + 1)) = n1 from by omega] at h
   exact h
  rw [hv, Nat.mul_right_comm]
  exact Nat.mul_lt_mul_of_pos_right (Nat.lt_of_lt_of_le hx h1) (Nat.pos_of_ne_zero (by simp))

theorem DOut.start {w1 wr : World} {gu gq n1 n2 x y s : Nat} {us vs : List Nat} (hd : DivNums x y s n1 n2 vs) (hu : Own wr gu (us ++ (List.replicate (n1 + 1) 0).drop us.length)) (hq : Own wr gq (List.replicate (n1 + 1 - n2) 0)) (hl : us.length ≤ n1 + 1)
  (hus : natVal us = x * 2 ^ s) (hw : ∀ i, us.getD i 0 < 4294967296) (hne : gu ≠ gq) (h1 : w1.heap.size ≤ gu) (h2 : w1.heap.size ≤ gq) (he : Ext w1 wr) :
  DOut w1 gu gq (n1 + 1) (n1 + 1 - n2) vs (x * 2 ^ s) (n1 + 1 - n2) wr := by
 refine ⟨_, _, ⟨hu, hq, by simp; omega, by simp, fun i => ?_, fun i => by rw [getD_zeros]; omega, hne, h1, h2, he⟩, ?_, ?_, fun i _ => getD_zeros _ _⟩
 ·rw [getD_append]; split
  ·exact hw i
  ·rw [getD_drop_zeros]; omega
 ·rw [natVal_zeros, Nat.zero_mul, Nat.zero_add, natVal_append, List.drop_replicate, natVal_zeros, Nat.mul_zero, Nat.add_zero, hus]
 ·rw [natVal_append, List.drop_replicate, natVal_zeros, Nat.mul_zero, Nat.add_zero, hus]
  exact hd.start

/-- A guess and what is left of the first two digits. -/
def Gs (q g r v1 first : Nat) : Prop := q ≤ g ∧ g * v1 + r = first
/-- What one round knows of its digits. -/
structure Digits (Nu V W q x2 x1 x0 v1 v2 T : Nat) : Prop where
 start : Gs q ((x2 * 4294967296 + x1) / v1) ((x2 * 4294967296 + x1) % v1) v1 (x2 * 4294967296 + x1)
 step : ∀ g r, Gs q g r v1 (x2 * 4294967296 + x1) → (4294967296 ≤ g ∨ r * 4294967296 + x0 < g * v2) → 1 ≤ g ∧ Gs q (g - 1) (r + v1) v1 (x2 * 4294967296 + x1)
 exit : ∀ g r, Gs q g r v1 (x2 * 4294967296 + x1) → ((g < 4294967296 ∧ g * v2 ≤ r * 4294967296 + x0) ∨ 4294967296 ≤ r) → g < 4294967296 ∧ q ≤ g ∧ g ≤ q + 1
 bound : ∀ g r, Gs q g r v1 (x2 * 4294967296 + x1) → g ≤ 8589934592
 lo : q * (V * W) ≤ Nu
 hi : Nu < (q + 1) * (V * W)
 lim : Nu < T

theorem digits (us vs : List Nat) (n2 j : Nat) (hn : 2 ≤ n2) (huw : ∀ i, us.getD i 0 < 4294967296) (hvw : ∀ i, vs.getD i 0 < 4294967296) (hvl : vs.length = n2) (htop : 2147483648 ≤ vs.getD (n2 - 1) 0)
  (hlt : natVal us < natVal vs * 4294967296 ^ (j + 1)) :
  Digits (natVal us) (natVal vs) (4294967296 ^ j) (natVal us / (natVal vs * 4294967296 ^ j)) (us.getD (j + n2) 0) (us.getD (j + n2 - 1) 0) (us.getD (j + n2 - 2) 0) (vs.getD (n2 - 1) 0) (vs.getD (n2 - 2) 0) (4294967296 ^ (j + n2 + 1)) := by
 obtain ⟨m, rfl⟩ : ∃ m, n2 = m + 2 := ⟨n2 - 2, by omega⟩
 rw [show j + (m + 2) - 1 = j + m + 1 from by omega, show j + (m + 2) - 2 = j + m from by omega, show m + 2 - 1 = m + 1 from by omega, show m + 2 - 2 = m from by omega, show j + (m + 2) = j + m + 1 + 1 from by omega] at *
 have hVl := natVal_lt vs hvw
 rw [hvl] at hVl
 have hlim : natVal us < 4294967296 ^ (j + m + 1 + 1 + 1) := by
  have h1 : natVal vs * 4294967296 ^ (j + 1) ≤ 4294967296 ^ (m + 2) * 4294967296 ^ (j + 1) := Nat.mul_le_mul_right _ (Nat.le_of_lt hVl)
  rw [← Nat.pow_add, show m + 2 + (j + 1) = j + m + 1 + 1 + 1 from by omega] at h1
  omega
 have eu := pv_zero_above us (j + m + 1 + 1 + 1) (zero_above us _ hlim)
 rw [pv, pv, pv] at eu
 have ev := pv_all vs (m + 1 + 1) (Nat.le_of_eq hvl)
 rw [pv, pv] at ev
 have hlo := pv_lt us huw (j + m)
 have hV0 := pv_lt vs hvw m
 have hx2 := huw (j + m + 1 + 1)
 have hx1 := huw (j + m + 1)
 have hx0 := huw (j + m)
 have hv2 := hvw m
 have hv1 := hvw (m + 1)
 rw [Nat.pow_add] at hlo
 have hlt2 : natVal us < natVal vs * 4294967296 ^ j * 4294967296 := by rw [Nat.mul_assoc, ← Nat.pow_succ]; exact hlt
 have hW : 0 < 4294967296 ^ j := Nat.pos_of_ne_zero (by simp)
 simp only [Nat.pow_succ, Nat.pow_add] at eu ev
 generalize us.getD (j + m + 1 + 1) 0 = x2 at *
 generalize us.getD (j + m + 1) 0 = x1 at *
 generalize us.getD (j + m) 0 = x0 at *
 generalize vs.getD (m + 1) 0 = v1 at *
 generalize vs.getD m 0 = v2 at *
 generalize pv us (j + m) = lo at *
 generalize pv vs m = V0 at *
 generalize natVal us = Nu at *
 generalize natVal vs = V at *
 generalize 4294967296 ^ j = W at *
 generalize 4294967296 ^ m = P at *
 clear hVl hlt
 have hN : Nu = lo + W * P * (x0 + 4294967296 * (x2 * 4294967296 + x1)) := by rw [← eu]; grind
 have hV : V = V0 + P * (v2 + 4294967296 * v1) := by rw [← ev]; grind
 clear eu ev
 have hP : 0 < P := by omega
 have hVpos : 0 < V := by
  have : P * 1 ≤ P * (v2 + 4294967296 * v1) := Nat.mul_le_mul_left _ (by omega)
  omega
 have hX : 0 < V * W := Nat.mul_pos hVpos hW
 have hqlo : Nu / (V * W) * (V * W) ≤ Nu := Nat.div_mul_le_self _ _
 have hqhi : Nu < (Nu / (V * W) + 1) * (V * W) := by
  have := Nat.div_add_mod Nu (V * W)
  have := Nat.mod_lt Nu hX
  rw [Nat.add_mul, Nat.one_mul, Nat.mul_comm]; omega
 have hqB := digit_lt _ _ _ hqlo hlt2
 have hx2v := first_le V W Nu lo P x0 x1 x2 v1 v2 V0 hN hlt2 hV hV0 hv2
 generalize Nu / (V * W) = q at *
 have hv1p : 0 < v1 := by omega
 refine ⟨⟨?_, ?_⟩, fun g r hg ht => ?_, fun g r hg ht => ?_, fun g r hg => ?_, hqlo, hqhi, hlim⟩
 ·rw [Nat.le_div_iff_mul_le hv1p]
  exact guess_ge q V W Nu lo P x0 _ v1 v2 V0 hqlo hN hlo hx0 hV
 ·rw [Nat.mul_comm]; exact Nat.div_add_mod _ _
 ·obtain ⟨h1, h2⟩ := hg
  have h3 : q + 1 ≤ g := by
   rcases ht with ht | ht
   ·omega
   ·exact guess_dec q g r V W Nu lo P x0 _ v1 v2 V0 hqlo hN hlo hV h1 h2 ht
  obtain ⟨g', rfl⟩ : ∃ g', g = g' + 1 := ⟨g - 1, by omega⟩
  refine ⟨by omega, by omega, ?_⟩
  rw [Nat.add_sub_cancel]
  rw [Nat.add_mul, Nat.one_mul] at h2
  omega
 ·obtain ⟨h1, h2⟩ := hg
  have h3 : g < 4294967296 := by
   rcases ht with ht | ht
   ·exact ht.1
   ·exact guess_small g r _ v1 x1 x2 h2 rfl hx1 hx2v ht
  have h4 : g * v2 ≤ r * 4294967296 + x0 := by
   rcases ht with ht | ht
   ·exact ht.2
   ·have := prod2_lt g v2 h3 hv2
    omega
  exact ⟨h3, h1, guess_final g q _ Nu (guess_le g r V W Nu lo P x0 _ v1 v2 V0 hN hV hV0 h2 h4 (Nat.le_of_lt h3) hv1p) hqhi⟩
 ·obtain ⟨h1, h2⟩ := hg
  apply Nat.le_of_not_lt
  intro hh
  have := Nat.mul_le_mul (show 8589934593 ≤ g from hh) htop
  omega

theorem Digits.prod {Nu V W q x2 x1 x0 v1 v2 T g : Nat} (_h : Digits Nu V W q x2 x1 x0 v1 v2 T) (hg : g < 4294967296) (hv : v2 < 4294967296) (r : Nat) (hr : r < 4294967296) (hx : x0 < 4294967296) :
  ∃ p : Nat, (g : Int) * (v2 : Int) = (p : Int) ∧ p ≤ 18446744065119617025 ∧ g * v2 = p ∧ bits .or .u64 ((r : Int) * 4294967296) (x0 : Int) = ((r * 4294967296 + x0 : Nat) : Int) := by
 refine ⟨g * v2, by simp, prod2_lt g v2 hg hv, rfl, ?_⟩
 have := u64_or_nat (r * 4294967296) x0 (by omega) (by omega)
 rw [nat_join 32 _ _ (by omega) (by omega)] at this
 simpa using this

theorem wrap_div (a b : Nat) (ha : a < 18446744073709551616) : IntKind.u64.wrap ((a : Int) / (b : Int)) = ((a / b : Nat) : Int) := by
 have h := Nat.div_le_self a b
 rw [IntKind.wrap_u64, ← Int.natCast_ediv]
 generalize a / b = q at *
 omega

/-- The next state, behind the store of the digit. -/
theorem DOut.next {w1 wr : World} {gu gq N M A j q : Nat} {vs us qs : List Nat} (h : DEnd w1 gu gq N M qs (natVal us - q * (natVal vs * 4294967296 ^ j)) wr) (hj : j < M) (hqB : q < 4294967296)
  (hA : natVal qs * natVal vs + natVal us = A) (hq0 : ∀ i, i < j + 1 → qs.getD i 0 = 0) (hlo : q * (natVal vs * 4294967296 ^ j) ≤ natVal us) (hhi : natVal us < (q + 1) * (natVal vs * 4294967296 ^ j)) :
  wr.frozen? ⟨gq, j, none⟩ = false ∧ (∃ o : Nat, wr.cell? ⟨gq, j, none⟩ = some (.int .u32 o)) ∧ DOut w1 gu gq N M vs A j (wr.setCell ⟨gq, j, none⟩ (.int .u32 (q : Nat))) := by
 obtain ⟨us', t, hR⟩ := h
 obtain ⟨c1, c2⟩ := t.cellQ j hj
 refine ⟨c2, ⟨_, c1⟩, us', _, t.setQ j q hj hqB, ?_, ?_, fun i hi => ?_⟩
 ·have e := natVal_set qs j q (by rw [t.lq]; exact hj)
  rw [hq0 j (by omega), Nat.mul_zero, Nat.add_zero] at e
  have h1 : (natVal qs + 4294967296 ^ j * q) * natVal vs = natVal qs * natVal vs + q * (natVal vs * 4294967296 ^ j) := by
   generalize 4294967296 ^ j = W
   grind
  rw [e, hR, h1]
  omega
 ·rw [hR]
  rw [Nat.add_mul, Nat.one_mul] at hhi
  omega
 ·rw [getD_set _ _ _ _ (by rw [t.lq]; exact hj), if_neg (by omega)]; exact hq0 i (by omega)

/-- The end: quotient and remainder, the latter still shifted. -/
theorem DOut.fin {w1 wr : World} {gu gq n1 n2 x y s : Nat} {vs : List Nat} (hd : DivNums x y s n1 n2 vs) (h : DOut w1 gu gq (n1 + 1) (n1 + 1 - n2) vs (x * 2 ^ s) 0 wr) (hn : n2 ≤ n1) (hb : n1 ≤ 268435456) (hy : 0 < y) :
  ∃ us qs, Wd wr (some ⟨gq, 0, none⟩) (n1 + 1 - n2) (n1 + 1 - n2) qs ∧ natVal qs = x / y ∧ Wd wr (some ⟨gu, 0, none⟩) n2 (n1 + 1) us ∧ natVal us = x % y * 2 ^ s ∧ Ext w1 wr := by
 obtain ⟨us, qs, t, hA, hlt, _⟩ := h
 rw [Nat.pow_zero, Nat.mul_one] at hlt
 have hw1 := t.oq.wd t.wq (n1 + 1 - n2) (Nat.le_of_eq t.lq) (by omega)
 have hw2 := t.ou.wd t.wu (n1 + 1) (Nat.le_of_eq t.lu) (by omega)
 rw [t.lq] at hw1
 rw [t.lu] at hw2
 have hp : 0 < 2 ^ s := Nat.pos_of_ne_zero (by simp)
 have hV := natVal_lt vs hd.words
 rw [hd.len] at hV
 have hz := zero_above us n2 (Nat.lt_trans hlt hV)
 rw [hd.v] at hA hlt
 have hY : 0 < y * 2 ^ s := Nat.mul_pos hy hp
 refine ⟨us.take n2, qs, hw1, ?_, hw2.take n2 (by omega), ?_, t.ext⟩
 ·have : x * 2 ^ s / (y * 2 ^ s) = natVal qs := by
   rw [← hA, Nat.mul_comm (natVal qs), Nat.mul_add_div hY, Nat.div_eq_of_lt hlt, Nat.add_zero]
  rw [← this, Nat.mul_div_mul_right _ _ hp]
 ·rw [← pv_take, pv_zero_above us n2 hz]
  have : x * 2 ^ s % (y * 2 ^ s) = natVal us := by
   rw [← hA, Nat.mul_comm (natVal qs), Nat.mul_add_mod, Nat.mod_eq_of_lt hlt]
  rw [← this, Nat.mul_mod_mul_right]

/-- All that a round of the outer loop begins with. -/
structure Rf (w1 : World) (gu gq n1 M n2 bv offv : Nat) (vs : List Nat) (A j : Nat) (wr : World) (us qs : List Nat) (q x2 x1 x0 v1 v2 : Nat) : Prop where
 two : Two w1 gu gq (n1 + 1) M us qs wr
 hA : natVal qs * natVal vs + natVal us = A
 hq0 : ∀ i, i < j + 1 → qs.getD i 0 = 0
 dig : Digits (natVal us) (natVal vs) (4294967296 ^ j) q x2 x1 x0 v1 v2 (4294967296 ^ (j + n2 + 1))
 ms : DMs w1 gu gq (n1 + 1) M vs us qs 0 j 0 0 0 wr
 x2e : us.getD (j + n2) 0 = x2
 x2l : x2 < 4294967296
 x1l : x1 < 4294967296
 x0l : x0 < 4294967296
 v1t : 2147483648 ≤ v1
 v1l : v1 < 4294967296
 v2l : v2 < 4294967296
 c2 : wr.cell? ⟨gu, j + n2, none⟩ = some (.int .u32 (x2 : Nat))
 c1 : wr.cell? ⟨gu, j + n2 - 1, none⟩ = some (.int .u32 (x1 : Nat))
 c0 : wr.cell? ⟨gu, j + n2 - 2, none⟩ = some (.int .u32 (x0 : Nat))
 d1 : wr.cell? ⟨bv, offv + (n2 - 1), none⟩ = some (.int .u32 (v1 : Nat))
 d2 : wr.cell? ⟨bv, offv + (n2 - 2), none⟩ = some (.int .u32 (v2 : Nat))
 or1 : bits .or .u64 ((x2 : Int) * 4294967296) (x1 : Int) = ((x2 * 4294967296 + x1 : Nat) : Int)
 fl : x2 * 4294967296 + x1 < 18446744073709551616
 fr : (x2 * 4294967296 + x1) % v1 < 4294967296
 qB : q < 4294967296

theorem Rf.start {w1 wr wx : World} {gu gq n1 M n2 bv offv A j q x2 x1 x0 v1 v2 : Nat} {vs us qs : List Nat} (h : Rf w1 gu gq n1 M n2 bv offv vs A j wr us qs q x2 x1 x0 v1 v2) (g : Nat) (e : Ext wr wx) :
  DMs w1 gu gq (n1 + 1) M vs us qs g j 0 0 0 wx := ⟨us, h.two.after e, by simp [pv], fun _ _ => rfl⟩
theorem DOut.round {w1 wr : World} {gu gq n1 M n2 bv offv cv x y s A j : Nat} {vs : List Nat} (h : DOut w1 gu gq (n1 + 1) M vs A (j + 1) wr) (hd : DivNums x y s n1 n2 vs) (hv : Wd w1 (some ⟨bv, offv, none⟩) n2 cv vs)
  (hn : 2 ≤ n2) (hj : j + 1 ≤ M) (hM : M + n2 ≤ n1 + 1) : ∃ us qs q x2 x1 x0 v1 v2, Rf w1 gu gq n1 M n2 bv offv vs A j wr us qs q x2 x1 x0 v1 v2 := by
 obtain ⟨us, qs, two, hA, hlt, hq0⟩ := h
 have D := digits us vs n2 j hn two.wu hd.words hd.len hd.top hlt
 have hv1 := hd.words (n2 - 1)
 have hv1t := hd.top
 have hx2 := two.wu (j + n2)
 have hx1 := two.wu (j + n2 - 1)
 have hv := hv.ext two.ext
 refine ⟨us, qs, _, _, _, _, _, _, two, hA, hq0, D, ⟨us, two, by simp, fun i _ => rfl⟩, rfl, hx2, hx1, two.wu _, hv1t, hv1, hd.words _, (two.cellU _ (by omega)).1, (two.cellU _ (by omega)).1, (two.cellU _ (by omega)).1, hv.cell _ (by omega), hv.cell _ (by omega), ?_, ?_, ?_, ?_⟩
 ·have := u64_or_nat (us.getD (j + n2) 0 * 4294967296) (us.getD (j + n2 - 1) 0) (by omega) (by omega)
  rw [nat_join 32 _ _ (by omega) (by omega)] at this
  simpa using this
 ·omega
 ·exact Nat.lt_trans (Nat.mod_lt _ (by omega)) hv1
 ·exact digit_lt _ _ _ D.lo (by rw [Nat.mul_assoc, ← Nat.pow_succ]; exact hlt)
theorem DMe.pick {w1 wr : World} {gu gq N M g j n V W b q x2 x1 x0 v1 v2 : Nat} {us0 qs : List Nat} (h : DMe w1 gu gq N M us0 qs g j n V b wr) (hd : Digits (natVal us0) V W q x2 x1 x0 v1 v2 (4294967296 ^ (j + n + 1))) (hW : W = 4294967296 ^ j)
  (hg : q ≤ g ∧ g ≤ q + 1) (hb : b ≤ 1) : (b = 0 → g = q) ∧ (b = 1 → g = q + 1) := by
 subst hW
 exact h.guess hd.lim hd.lo hd.hi hg.1 hg.2 hb
/-- No borrow: the guess is the digit. -/
theorem DMe.yes {w1 wr : World} {gu gq n1 M n2 bv offv A j q x2 x1 x0 v1 v2 g : Nat} {vs us qs : List Nat} {wx : World} (h : DMe w1 gu gq (n1 + 1) M us qs g j n2 (natVal vs) 0 wx)
  (r : Rf w1 gu gq n1 M n2 bv offv vs A j wr us qs q x2 x1 x0 v1 v2) (hg : q ≤ g ∧ g ≤ q + 1) (hj : j < M) :
  wx.frozen? ⟨gq, j, none⟩ = false ∧ (∃ o : Nat, wx.cell? ⟨gq, j, none⟩ = some (.int .u32 o)) ∧ DOut w1 gu gq (n1 + 1) M vs A j (wx.setCell ⟨gq, j, none⟩ (.int .u32 (g : Nat))) := by
 have e := (h.pick r.dig rfl hg (by omega)).1 rfl
 subst e
 exact DOut.next h.noBorrow hj r.qB r.hA r.hq0 r.dig.lo r.dig.hi
/-- A borrow: the guess is one too great. -/
theorem DMe.no {w1 wr : World} {gu gq n1 M n2 bv offv A j q x2 x1 x0 v1 v2 g : Nat} {vs us qs : List Nat} {wx : World} (h : DMe w1 gu gq (n1 + 1) M us qs g j n2 (natVal vs) 1 wx)
  (r : Rf w1 gu gq n1 M n2 bv offv vs A j wr us qs q x2 x1 x0 v1 v2) (hg : q ≤ g ∧ g ≤ q + 1) (hj : j < M) (hN : j + n2 < n1 + 1) (hvl : vs.length = n2) :
  g = q + 1 ∧ ∃ us1, DAb w1 gu gq (n1 + 1) M vs us1 qs j 0 0 wx ∧
   ∀ wy c, c ≤ 1 → DAb w1 gu gq (n1 + 1) M vs us1 qs j n2 c wy → ∃ x : Nat, x < 4294967296 ∧ wy.cell? ⟨gu, j + n2, none⟩ = some (.int .u32 (x : Nat)) ∧ wy.frozen? ⟨gu, j + n2, none⟩ = false ∧
    ∀ wz, wz = wy.setCell ⟨gu, j + n2, none⟩ (.int .u32 (((x + c) % 4294967296 : Nat) : Int)) →
    wz.frozen? ⟨gq, j, none⟩ = false ∧ (∃ o : Nat, wz.cell? ⟨gq, j, none⟩ = some (.int .u32 o)) ∧ DOut w1 gu gq (n1 + 1) M vs A j (wz.setCell ⟨gq, j, none⟩ (.int .u32 (q : Nat))) := by
 have e := (h.pick r.dig rfl hg (by omega)).2 rfl
 obtain ⟨us1, a, b, z⟩ := h.toAb (vs := vs) r.dig.lim
 refine ⟨e, us1, a, fun wy c hc hab => ?_⟩
 have hq : (g - 1) * (natVal vs * 4294967296 ^ j) ≤ natVal us := by rw [e, Nat.add_sub_cancel]; exact r.dig.lo
 obtain ⟨c1, c2, c3, c4⟩ := hab.last hN hc hvl b (by omega) hq z
 refine ⟨_, c3, c1, c2, fun wz hz => ?_⟩
 subst hz
 rw [e, Nat.add_sub_cancel] at c4
 exact DOut.next c4 hj r.qB r.hA r.hq0 r.dig.lo r.dig.hi

end Go.Proofs.YtkeikfekkdplgaaGreatDoor
namespace Go.Proofs.YtkeikfekkdplgaaGreatDoor
open Go Go.RowKit

set_option maxRecDepth 100000 in
set_option maxHeartbeats 4000000 in
theorem div_long (w : World) (a1 a2 : Option Addr) (n1 n2 c1 c2 k1 k2 x y : Nat) (h1 : NatAt w k1 a1 n1 c1 x) (h2 : NatAt w k2 a2 n2 c2 y) (s1 : k1 ≤ 268435456) (hge : y ≤ x) (hn2 : 2 ≤ n2) :
  Calls Tryz.prog 227 #[.slice a1 n1 c1, .slice a2 n2 c2] w (RDiv w k1 k2 (x / y) (x % y)) := by
 have hc := hid (cmp_c w a1 a2 n1 n2 c1 c2 k1 k2 x y h1 h2 (by omega))
 have hv : ∃ c : Int, cmpI (x : Int) (y : Int) = c ∧ 0 ≤ c := by
  rcases Nat.eq_or_lt_of_le hge with h | h
  ·exact ⟨0, cmpI_eq (by omega), by omega⟩
  ·exact ⟨1, cmpI_gt (by omega), by omega⟩
 obtain ⟨c, hv, hc0⟩ := hv
 rw [hv] at hc
 have hn12 : n2 ≤ n1 := by
  have a := h2.ge (by omega)
  have b := (Nat.pow_lt_pow_iff_right (a := 4294967296) (by omega)).1 (Nat.lt_of_le_of_lt (Nat.le_trans a hge) h1.lt)
  omega
 have hk1 := h1.le
 have hk2 := h2.le
 have hxl := hid h1.lt
 have h2' := h2
 obtain ⟨ys, h2a, _, hz, hy⟩ := h2'
 have hz := hz (by omega)
 rcases h2a.shape with h | ⟨b2, off2, rfl, hb2⟩
 ·omega
 have hcb := h2a.cell (n2 - 1) (by omega)
 have htl := h2a.lt (n2 - 1)
 have hsh := hid (divShift y n2 ys hy h2a.len h2a.lt hn2 hz)
 have hyp := hid (h2.ge (by omega))
 have Hy0 : Hid (0 < y) := Nat.lt_of_lt_of_le (Nat.pos_of_ne_zero (by simp)) hyp.out
 have Hylt := hid h2.lt
 have hlz := (lz_bounds _ hz htl).1
 have hcell1 : ((n2 : Int) == 1) = false := by rw [beq_eq_false_iff_ne]; omega
 clear h2a hz hy hge hv
 generalize ys.getD (n2 - 1) 0 = t at *
 have H1 := hid h1
 have H2 := hid (h2.tight h2.lt)
 clear h1 h2
 go_enter Tryz.func227, Tryz.ntmps227
 go_wp2_with fail
 refine (hc.out).mono ?_
 rintro e w' ⟨rfl, he⟩
 have hcb := he.cell hcb
 clear hc
 go_wp2_with fail
 refine (lz_c t htl _).mono ?_
 rintro e w0 ⟨rfl, rfl⟩
 generalize lz t = s at *
 go_wp2_with fail
 refine (shl_c _ _ _ _ s n2 y (H2.out.ext he) (by omega) (by omega)).mono ?_
 rintro e w1 ⟨av, nv, cv, rfl, he1, hv⟩
 obtain rfl : n2 = nv := (shifted_len hv (by omega) (Nat.le_trans (Nat.le_mul_of_pos_right _ (by omega)) hsh.out.1) hsh.out.2).symm
 go_wp2_with (at_make; refine wpl_make rfl _ _ _ rfl Tryz.underlying240 _ _ (n1 + 1) rfl rfl (by omega) (by omega) (by omega) ?_; intro w2 e2 z2 o2)
 refine (shl_c _ _ _ _ s k1 x (H1.out.ext (he.trans (he1.trans e2))) (by omega) (by omega)).mono ?_
 rintro e w3 ⟨au, nu, cu, rfl, he3, hu⟩
 have hul : nu ≤ n1 + 1 := by
  have hB : x * 2 ^ s < 4294967296 ^ (n1 + 1) := by
   rw [Nat.pow_succ]
   have h1 : 2 ^ s ≤ 4294967296 := by rw [show (4294967296 : Nat) = 2 ^ 32 from rfl]; exact Nat.pow_le_pow_right (by omega) (by omega)
   exact Nat.lt_of_le_of_lt (Nat.mul_le_mul_left x h1) (Nat.mul_lt_mul_of_pos_right hxl.out (by omega))
  exact (hu.tight hB).le
 obtain ⟨us, hus, _, _, huv⟩ := hu
 obtain ⟨vs, hvs, _, _, hvv⟩ := hv
 have Hn := hid (divNums x y s n1 n2 vs hsh.out.1 hyp.out hn2 hxl.out hn12 hvv hvs.len hvs.lt)
 rcases hvs.shape with h | ⟨bv, offv, rfl, hbv⟩
 ·omega
 have Huv := hid huv
 have Hvs := hid hvs
 clear huv hvv hvs
 go_wp2_with (first
  | (with_reducible refine wpl_copy w1 rfl _ _ _ _ rfl Tryz.underlying240 _ _ _ _ _ rfl rfl _ _ (o2.ext he3) (by simp) hus hul (e2.trans he3) (Nat.le_refl _) ?_; intro w4 o4 e4)
  | (at_make; refine wpl_make rfl _ _ _ rfl Tryz.underlying240 _ _ (n1 + 1 - n2) rfl rfl (by omega) (by omega) (by omega) ?_; intro w5 e5 z5 o5))
 have o4' : Own w4 w1.heap.size (us ++ (List.replicate (n1 + 1) 0).drop us.length) := by rw [hus.len]; exact o4
 have D0 := hid (DOut.start Hn.out (o4'.ext e5) o5 (by rw [hus.len]; exact hul) Huv.out hus.lt (Nat.ne_of_lt o4.lt) (Nat.le_refl _) e4.size (e4.trans e5))
 have HX := hid ((he.trans he1))
 clear o2 e2 z2 he3 o4 o4' e4 e5 z5 o5 hus hul hsh he he1 H1 H2 Huv
 generalize hgu : w1.heap.size = gu at *
 generalize hgq : w4.heap.size = gq at *
 have hM1 : n1 + 1 - n2 + n2 ≤ n1 + 1 := by omega
 have hM2 : n1 + 1 ≤ n1 + 1 - n2 + n2 := by omega
 generalize hM : n1 + 1 - n2 = M at *
 have HM := hid hM
 clear hgu hgq hM hcb htl hc0 hcell1 hyp hb2
 go_loopg [13] M (fun k p wr => ∃ z : Int, p = .int .i64 z ∧ z ≤ (k : Int) - 1 ∧ (k : Int) - 1 ≤ z ∧ k ≤ M ∧ Hid (DOut w1 gu gq (n1 + 1) M vs (x * 2 ^ s) k wr))
 case atStart => exact ⟨_, rfl, by omega, by omega, by omega, D0⟩
 case round =>
  clear D0
  obtain ⟨z, rfl, hz1, hz2, hkM, hout⟩ := hrel
  by_cases hk0 : 1 ≤ gk
  ·obtain ⟨j, rfl⟩ : ∃ j, gk = j + 1 := ⟨gk - 1, by omega⟩
   obtain rfl : z = (j : Int) := by omega
   obtain ⟨us, qs, q, x2, x1, x0, v1, v2, R⟩ := hout.out.round Hn.out Hvs.out hn2 hkM hM1
   clear hout
   have R := hid R
   have hc2 := R.out.c2
   have hc1 := R.out.c1
   have hc0 := R.out.c0
   have hd1 := R.out.d1
   have hd2 := R.out.d2
   have hor1 := R.out.or1
   have hx2 := R.out.x2l
   have hx1 := R.out.x1l
   have hx0 := R.out.x0l
   have hv1t := R.out.v1t
   have hv1 := R.out.v1l
   have hv2 := R.out.v2l
   have hG0 := hid R.out.dig.start
   have hfl := R.out.fl
   have hfr := R.out.fr
   generalize hf : x2 * 4294967296 + x1 = first at hor1 hG0 hfl hfr
   have Hf := hid hf
   clear hf
   have hv10 : ¬ (v1 : Int) = 0 := by omega
   go_wp2_with fail
   go_quiet (fail)
   go_wp2_with fail
   go_quiet (fail)
   go_upto_block 2 with (fail)
   go_cut [15, 16] (fun g r wx => ∃ gg : Nat, g = .int .u64 gg ∧ gg < 4294967296 ∧ Hid (q ≤ gg ∧ gg ≤ q + 1) ∧ Ext wr wx)
   case first =>
    go_wp2_with fail
    go_loopw [15, 16] (fun g r wi => ∃ gg rr : Nat, g = .int .u64 gg ∧ r = .int .u64 rr ∧ rr < 4294967296 ∧ gg ≤ 8589934592 ∧ Hid (Gs q gg rr v1 first) ∧ Ext wr wi) (fun g _ _ => (intOf g).toNat)
    case atStart => exact ⟨first / v1, first % v1, by rw [wrap_div _ _ hfl], by rw [Int.natCast_emod], hfr, R.out.dig.bound _ _ (by rw [Hf.out]; exact hG0.out), hG0, ((Ext.refl _).drewN _).drewN _⟩
    case round =>
     obtain ⟨gg, rr, rfl, rfl, hrr, hgg, hG, hext⟩ := hrel
     have hc0 := hext.cell hc0
     have hd1 := hext.cell hd1
     have hd2 := hext.cell hd2
     by_cases hbig : 4294967295 < gg
     ·obtain ⟨hg1, hGn⟩ := R.out.dig.step gg rr (by rw [Hf.out]; exact hG) (.inl (by omega))
      have hGn := hid hGn
      have hb8 := R.out.dig.bound _ _ hGn.out
      have hbd : decide ((4294967295 : Int) < (gg : Int)) = true := by simp; omega
      by_cases hst : 4294967295 < rr + v1
      ·have hex := hid (R.out.dig.exit _ _ hGn.out (.inr (by omega)))
       have hexB := hex.out.1
       go_wp2_with fail
       go_quiet (fail)
       go_wp2_with fail
       go_meet
       exact ⟨gg - 1, by go_num, hexB, hex.out.2, hext.drewN _⟩
      ·go_wp2_with fail
       go_quiet (fail)
       go_wp2_with fail
       go_roundw
       case rel => exact ⟨gg - 1, rr + v1, by go_num, by go_num, by omega, hb8, by rw [← Hf.out]; exact hGn, hext.drewN _⟩
       case measure => simp [intOf]; omega
     ·have hgB : gg < 4294967296 := by omega
      have hbd : decide ((4294967295 : Int) < (gg : Int)) = false := by simp; omega
      obtain ⟨p, hp1, hp2, hp3, hor2⟩ := R.out.dig.prod hgB hv2 rr hrr hx0
      have Hp3 := hid hp3
      clear hp3
      by_cases ht : rr * 4294967296 + x0 < p
      ·have htd : decide (((rr * 4294967296 + x0 : Nat) : Int) < (p : Int)) = true := by simp; omega
       obtain ⟨hg1, hGn⟩ := R.out.dig.step gg rr (by rw [Hf.out]; exact hG) (.inr (by rw [Hp3.out]; exact ht))
       have hGn := hid hGn
       have hb8 := R.out.dig.bound _ _ hGn.out
       by_cases hst : 4294967295 < rr + v1
       ·have hex := hid (R.out.dig.exit _ _ hGn.out (.inr (by omega)))
        have hexB := hex.out.1
        go_wp2_with fail
        go_quiet (fail)
        go_wp2_with fail
        go_meet
        exact ⟨gg - 1, by go_num, hexB, hex.out.2, hext.drewN _⟩
       ·go_wp2_with fail
        go_quiet (fail)
        go_wp2_with fail
        go_roundw
        case rel => exact ⟨gg - 1, rr + v1, by go_num, by go_num, by omega, hb8, by rw [← Hf.out]; exact hGn, hext.drewN _⟩
        case measure => simp [intOf]; omega
      ·have htd : decide (((rr * 4294967296 + x0 : Nat) : Int) < (p : Int)) = false := by simp; omega
       have hex := hid (R.out.dig.exit gg rr (by rw [Hf.out]; exact hG) (.inl ⟨hgB, by rw [Hp3.out]; omega⟩))
       go_wp2_with fail
       go_quiet (fail)
       go_wp2_with fail
       go_meet
       exact ⟨gg, rfl, hgB, hex.out.2, hext.drewN _⟩
   case rest =>
    obtain ⟨g, rfl, hgB, hGq, hext⟩ := hcut
    clear hc2 hc1 hc0 hd1 hd2 hor1 hx2 hx1 hx0 hv1t hv1 hv2 hG0 hfl hfr Hf hv10
    have M0 := hid (R.out.start g hext)
    clear hext
    go_wp2_with fail
    go_loopw [17, 18, 149] (fun c b i wi => ∃ k cc bb : Nat, k ≤ n2 ∧ cc < 4294967296 ∧ bb ≤ 1 ∧ i = .int .i64 k ∧ c = .int .u64 cc ∧ b = .int .u32 bb ∧ Hid (DMs w1 gu gq (n1 + 1) M vs us qs g j k cc bb wi)) (fun _ _ i _ => n2 - (intOf i).toNat)
    case atStart => exact ⟨0, 0, 0, by omega, by omega, by omega, rfl, rfl, rfl, M0⟩
    case round =>
     clear M0
     obtain ⟨k, cc, bb, hk, hcc, hbb, rfl, rfl, rfl, hms⟩ := hrel
     by_cases hk1 : k < n2
     ·obtain ⟨p, t, m, qq, x1, y, b', hy, hc1, hf1, hext, hx1, hyl, e1, e2, e3, e4, hpl, htl, hml, hql, hb', heb, hms'⟩ := hms.out.round (by omega) hbb hcc hgB (Hn.out.words k)
      have hcv := (Hvs.out.ext hext).cell k hk1
      rw [hy] at hcv
      have Heb := hid heb
      have Hms := hid hms'
      clear hy hms' heb hms hext
      go_wp2_with (go_at_call 224; refine (sub32_c x1 m bb hx1 hml hbb _).mono ?_; rintro e w' ⟨rfl, rfl⟩)
      go_roundw
      case rel => exact ⟨k + 1, qq, b', by omega, hql, hb', by go_num, rfl, by rw [Heb.out], Hms⟩
      case measure => simp [intOf]; omega
     ·obtain rfl : n2 = k := by omega
      obtain ⟨hc1, hf1, hext, hxl2, hme⟩ := hms.out.last (by omega) hbb hcc Hn.out.len
      rw [R.out.x2e] at hc1 hxl2 hme
      obtain ⟨⟨oq, hcq⟩, hfq, hne1, hne2⟩ := hms.out.cellQ j (by omega)
      clear hms
      have hccm : (cc : Int) % 4294967296 = (cc : Int) := by omega
      by_cases hbo : x2 < cc + bb
      ·rw [if_pos hbo] at hme
       obtain ⟨hg1, us1, hab, hrest⟩ := hme.no R.out hGq.out (by omega) (by omega) Hn.out.len
       have Hab := hid hab
       have Hrest := hid hrest
       have Hg1 := hid hg1
       have hg1' : 1 ≤ g := by omega
       clear hab hrest hg1 hme
       go_wp2_with (go_at_call 224; refine (sub32_lt x2 cc bb hxl2 hcc hbb _ hbo).mono ?_; rintro e w' ⟨rfl, rfl⟩)
       go_loopw [22, 205] (fun c i wi => ∃ k c' : Nat, k ≤ n2 ∧ c' ≤ 1 ∧ i = .int .i64 k ∧ c = .int .u32 c' ∧ Hid (DAb w1 gu gq (n1 + 1) M vs us1 qs j k c' wi)) (fun _ i _ => n2 - (intOf i).toNat)
       case atStart => exact ⟨0, 0, by omega, by omega, rfl, rfl, Hab⟩
       case round =>
        clear Hab hc1 hf1 hext hcq hfq
        obtain ⟨k, c', hk, hcb, rfl, rfl, hab⟩ := hrel
        by_cases hk1 : k < n2
        ·obtain ⟨x1, y, hy, hc1, hf1, hext, hx1, hyl, hcl, hab'⟩ := hab.out.round (by omega) hcb (Hn.out.words k)
         have hcv := (Hvs.out.ext hext).cell k hk1
         rw [hy] at hcv
         have Hab := hid hab'
         clear hy hab' hab hext
         go_wp2_with (go_at_call 222; refine (add32_c x1 y c' hx1 hyl hcb _).mono ?_; rintro e w' ⟨rfl, rfl⟩)
         go_roundw
         case rel => exact ⟨k + 1, _, by omega, hcl, by go_num, rfl, Hab⟩
         case measure => simp [intOf]; omega
        ·obtain rfl : n2 = k := by omega
         obtain ⟨x3, hx3, hc3, hf3, hfin⟩ := Hrest.out _ c' hcb hab.out
         obtain ⟨⟨oq, hcq⟩, hfq, hne1, hne2⟩ := hab.out.cellQ j (by omega)
         have Hout := hid (hfin _ rfl).2.2
         clear hab hfin Hrest
         go_wp2_with fail
         go_roundg j
         case measure => omega
         case rel => exact ⟨(j : Int) - 1, rfl, by omega, by omega, by omega, by rw [show (((x3 : Int) + c') % 4294967296) = (((x3 + c') % 4294967296 : Nat) : Int) from by omega, show ((g : Int) - 1) = ((q : Nat) : Int) from by have := Hg1.out; omega]; exact Hout⟩
      ·rw [if_neg hbo] at hme
       obtain ⟨_, _, hout⟩ := hme.yes R.out hGq.out (by omega)
       have Hout := hid hout
       clear hme hout
       go_wp2_with (go_at_call 224; refine (sub32_ge x2 cc bb hxl2 hcc hbb _ hbo).mono ?_; rintro e w' ⟨rfl, rfl⟩)
       go_roundg j
       case measure => omega
       case rel => exact ⟨(j : Int) - 1, rfl, by omega, by omega, by omega, Hout⟩
  ·obtain rfl : gk = 0 := by omega
   obtain rfl : z = -1 := by omega
   have hy0 : 0 < y := Hy0.out
   have hout' := hout.out
   rw [← HM.out] at hout'
   obtain ⟨us, qs, hw1, hq1, hw2, hq2, hext⟩ := hout'.fin Hn.out hn12 (by omega) hy0
   rw [HM.out] at hw1
   clear hout hout'
   have hs32 : s < 32 := hlz
   have hb1 : (0 : Int) ≤ (n2 : Int) := by omega
   have hb3 : (n2 : Int) ≤ (n1 : Int) + 1 := by omega
   go_wp2_with fail
   go_region_held3 (fun w' => Ext wr w') (first | assumption | exact Ext.refl _ | exact Ext.drew (Ext.refl _) | exact Ext.trans (by assumption) (by assumption))
    (first
     | (go_at_call 178; (with_reducible refine (trim_c _ _ _ _ _ (hw1.ext (by assumption))).mono ?_); rintro e wa ⟨aq, nq, cq, rfl, hxa, hna⟩)
     | (go_at_call 178; (with_reducible refine (trim_c _ _ _ _ _ (hw2.ext (by assumption))).mono ?_); rintro e wb ⟨ar, nr, cr, rfl, hxb, hnb⟩)
     | (go_at_call 239; (with_reducible refine (shr_c _ _ _ _ s n2 _ hnb (by omega) hs32).mono ?_); rintro e wc ⟨at2, nt, ct, rfl, hxc, hnc⟩))
   have e1 := hna.ext (hxb.trans hxc)
   rw [hq1] at e1
   rw [hq2, Nat.mul_div_cancel _ (Nat.pos_of_ne_zero (by simp))] at hnc
   have E1 := hid (e1.mono (show M ≤ k1 by omega))
   have E2 := hid (hnc.mono hk2)
   have hSx : Ext wr wc := by assumption
   have E3 := hid (HX.out.trans (hext.trans hSx))
   go_wp2_with fail
   go_ret2
   exact ⟨_, _, _, _, _, _, rfl, E3.out, E1.out, E2.out⟩

theorem div_c (w : World) (a1 a2 : Option Addr) (n1 n2 c1 c2 k1 k2 x y : Nat) (h1 : NatAt w k1 a1 n1 c1 x) (h2 : NatAt w k2 a2 n2 c2 y) (s1 : k1 ≤ 268435456) (hy : 0 < y) :
  Calls Tryz.prog 227 #[.slice a1 n1 c1, .slice a2 n2 c2] w (RDiv w k1 k2 (x / y) (x % y)) := by
 rcases Nat.lt_or_ge x y with h | h
 ·exact div_small w a1 a2 n1 n2 c1 c2 k1 k2 x y h1 h2 s1 h
 ·have hn : n2 ≠ 0 := fun h0 => by have := (h2.zero).2 h0; omega
  rcases Nat.lt_or_ge n2 2 with h3 | h3
  ·obtain rfl : n2 = 1 := by omega
   exact div_word w a1 a2 n1 c1 c2 k1 k2 x y h1 h2 s1 h
  ·exact div_long w a1 a2 n1 n2 c1 c2 k1 k2 x y h1 h2 s1 h h3
end Go.Proofs.YtkeikfekkdplgaaGreatDoor
