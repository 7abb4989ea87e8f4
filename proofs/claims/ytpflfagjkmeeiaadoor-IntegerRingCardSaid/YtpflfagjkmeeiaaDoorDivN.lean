/-
  Plain laws that the walk of long division uses: the shifted divisor, the digits of one round, the state behind a round.
-/
import Derived.Test.YtpflfagjkmeeiaaDoorDivSt
namespace Go.Proofs.YtpflfagjkmeeiaaDoor
open Go Go.RowKit

/-- The divisor, shifted: as many words as before, the first bit set. -/
theorem shifted_len {w : World} {k n cap m y n2 : Nat} {ao : Option Addr} (h : NatAt w k ao n cap (m * 2 ^ y)) (hn2 : 0 < n2) (h1 : 4294967296 ^ (n2 - 1) ≤ m * 2 ^ y) (h2 : m * 2 ^ y < 4294967296 ^ n2) : n = n2 := by
  have a := (h.tight h2).le
  rcases Nat.eq_zero_or_pos n with h0 | h0
  · have := (h.zero).2 h0
    have : 0 < 4294967296 ^ (n2 - 1) := Nat.pos_of_ne_zero (by simp)
    omega
  · have b := (Nat.pow_lt_pow_iff_right (a := 4294967296) (by omega)).1 (Nat.lt_of_le_of_lt h1 h.lt)
    omega

theorem divShift (y n2 : Nat) (ys : List Nat) (hy : natVal ys = y) (hyl : ys.length = n2) (hyw : ∀ i, ys.getD i 0 < 4294967296) (hn : 2 ≤ n2) (hz : ys.getD (n2 - 1) 0 ≠ 0) :
    4294967296 ^ (n2 - 1) * 2147483648 ≤ y * 2 ^ lz (ys.getD (n2 - 1) 0) ∧ y * 2 ^ lz (ys.getD (n2 - 1) 0) < 4294967296 ^ n2 := by
  obtain ⟨m, rfl⟩ : ∃ m, n2 = m + 1 := ⟨n2 - 1, by omega⟩
  simp only [Nat.add_sub_cancel] at *
  obtain ⟨a, b, c⟩ := lz_bounds _ hz (hyw m)
  have e := pv_all ys (m + 1) (Nat.le_of_eq hyl)
  have l := pv_lt ys hyw m
  rw [pv, hy] at e
  generalize ys.getD m 0 = t at *
  generalize hR : 2 ^ lz t = R at *
  have hdvd : ∃ d, 4294967296 = d * R := by rw [← hR]; exact pow32 _ (by omega)
  obtain ⟨d, hd⟩ := hdvd
  have hR0 : 0 < R := by rw [← hR]; exact Nat.pos_of_ne_zero (by simp)
  have htd : t < d := by
    rw [hd] at c
    exact Nat.lt_of_mul_lt_mul_right c
  constructor
  · rw [← e, Nat.add_mul, Nat.mul_assoc]
    have := Nat.mul_le_mul_left (4294967296 ^ m) b
    omega
  · have h1 : y < 4294967296 ^ m * (t + 1) := by rw [Nat.mul_add, Nat.mul_one]; omega
    have h2 : 4294967296 ^ m * (t + 1) ≤ 4294967296 ^ m * d := Nat.mul_le_mul_left _ htd
    have h3 : y * R < 4294967296 ^ m * d * R := Nat.mul_lt_mul_of_pos_right (by omega) hR0
    rw [Nat.mul_assoc, ← hd, ← Nat.pow_succ] at h3
    exact h3

/-- All that the loops know of the numbers. -/
structure DivNums (x y s n1 n2 : Nat) (vs : List Nat) : Prop where
  v : natVal vs = y * 2 ^ s
  len : vs.length = n2
  words : ∀ i, vs.getD i 0 < 4294967296
  top : 2147483648 ≤ vs.getD (n2 - 1) 0
  start : x * 2 ^ s < natVal vs * 4294967296 ^ (n1 + 1 - n2)

theorem divNums (x y s n1 n2 : Nat) (vs : List Nat) (hlo : 4294967296 ^ (n2 - 1) * 2147483648 ≤ y * 2 ^ s) (hylo : 4294967296 ^ (n2 - 1) ≤ y) (hn : 2 ≤ n2) (hx : x < 4294967296 ^ n1) (hn12 : n2 ≤ n1)
    (hv : natVal vs = y * 2 ^ s) (hvl : vs.length = n2) (hvw : ∀ i, vs.getD i 0 < 4294967296) : DivNums x y s n1 n2 vs := by
  obtain ⟨m, rfl⟩ : ∃ m, n2 = m + 1 := ⟨n2 - 1, by omega⟩
  simp only [Nat.add_sub_cancel] at *
  refine ⟨hv, hvl, hvw, ?_, ?_⟩
  · have e := pv_all vs (m + 1) (Nat.le_of_eq hvl)
    have l := pv_lt vs hvw m
    rw [pv, hv] at e
    apply Nat.le_of_not_lt
    intro hh
    simp only [Nat.add_sub_cancel] at hh
    have := Nat.mul_le_mul_left (4294967296 ^ m) (show vs.getD m 0 + 1 ≤ 2147483648 from hh)
    rw [Nat.mul_add, Nat.mul_one] at this
    omega
  · have h1 : 4294967296 ^ n1 ≤ y * 4294967296 ^ (n1 + 1 - (m + 1)) := by
      have h := Nat.mul_le_mul_right (4294967296 ^ (n1 + 1 - (m + 1))) hylo
      rw [← Nat.pow_add, show m + (n1 + 1 - (m + 1)) = n1 from by omega] at h
      exact h
    rw [hv, Nat.mul_right_comm]
    exact Nat.mul_lt_mul_of_pos_right (Nat.lt_of_lt_of_le hx h1) (Nat.pos_of_ne_zero (by simp))

theorem DOut.start {w1 wr : World} {gu gq n1 n2 x y s : Nat} {us vs : List Nat} (hd : DivNums x y s n1 n2 vs) (hu : Own wr gu (us ++ (List.replicate (n1 + 1) 0).drop us.length)) (hq : Own wr gq (List.replicate (n1 + 1 - n2) 0)) (hl : us.length ≤ n1 + 1)
    (hus : natVal us = x * 2 ^ s) (hw : ∀ i, us.getD i 0 < 4294967296) (hne : gu ≠ gq) (h1 : w1.heap.size ≤ gu) (h2 : w1.heap.size ≤ gq) (he : Ext w1 wr) :
    DOut w1 gu gq (n1 + 1) (n1 + 1 - n2) vs (x * 2 ^ s) (n1 + 1 - n2) wr := by
  refine ⟨_, _, ⟨hu, hq, by simp; omega, by simp, fun i => ?_, fun i => by rw [getD_zeros]; omega, hne, h1, h2, he⟩, ?_, ?_, fun i _ => getD_zeros _ _⟩
  · rw [getD_append]; split
    · exact hw i
    · rw [getD_drop_zeros]; omega
  · rw [natVal_zeros, Nat.zero_mul, Nat.zero_add, natVal_append, List.drop_replicate, natVal_zeros, Nat.mul_zero, Nat.add_zero, hus]
  · rw [natVal_append, List.drop_replicate, natVal_zeros, Nat.mul_zero, Nat.add_zero, hus]
    exact hd.start

/-- A guess and what is left of the first two digits. -/
def Gs (q g r v1 first : Nat) : Prop := q ≤ g ∧ g * v1 + r = first
/-- What one round knows of its digits. -/
structure Digits (Nu V W q x2 x1 x0 v1 v2 T : Nat) : Prop where
  start : Gs q ((x2 * 4294967296 + x1) / v1) ((x2 * 4294967296 + x1) % v1) v1 (x2 * 4294967296 + x1)
  step : ∀ g r, Gs q g r v1 (x2 * 4294967296 + x1) → (4294967296 ≤ g ∨ r * 4294967296 + x0 < g * v2) → 1 ≤ g ∧ Gs q (g - 1) (r + v1) v1 (x2 * 4294967296 + x1)
  exit : ∀ g r, Gs q g r v1 (x2 * 4294967296 + x1) → ((g < 4294967296 ∧ g * v2 ≤ r * 4294967296 + x0) ∨ 4294967296 ≤ r) → g < 4294967296 ∧ q ≤ g ∧ g ≤ q + 1
  bound : ∀ g r, Gs q g r v1 (x2 * 4294967296 + x1) → g ≤ 8589934592
  lo : q * (V * W) ≤ Nu
  hi : Nu < (q + 1) * (V * W)
  lim : Nu < T

theorem digits (us vs : List Nat) (n2 j : Nat) (hn : 2 ≤ n2) (huw : ∀ i, us.getD i 0 < 4294967296) (hvw : ∀ i, vs.getD i 0 < 4294967296) (hvl : vs.length = n2) (htop : 2147483648 ≤ vs.getD (n2 - 1) 0)
    (hlt : natVal us < natVal vs * 4294967296 ^ (j + 1)) :
    Digits (natVal us) (natVal vs) (4294967296 ^ j) (natVal us / (natVal vs * 4294967296 ^ j)) (us.getD (j + n2) 0) (us.getD (j + n2 - 1) 0) (us.getD (j + n2 - 2) 0) (vs.getD (n2 - 1) 0) (vs.getD (n2 - 2) 0) (4294967296 ^ (j + n2 + 1)) := by
  obtain ⟨m, rfl⟩ : ∃ m, n2 = m + 2 := ⟨n2 - 2, by omega⟩
  rw [show j + (m + 2) - 1 = j + m + 1 from by omega, show j + (m + 2) - 2 = j + m from by omega, show m + 2 - 1 = m + 1 from by omega, show m + 2 - 2 = m from by omega, show j + (m + 2) = j + m + 1 + 1 from by omega] at *
  have hVl := natVal_lt vs hvw
  rw [hvl] at hVl
  have hlim : natVal us < 4294967296 ^ (j + m + 1 + 1 + 1) := by
    have h1 : natVal vs * 4294967296 ^ (j + 1) ≤ 4294967296 ^ (m + 2) * 4294967296 ^ (j + 1) := Nat.mul_le_mul_right _ (Nat.le_of_lt hVl)
    rw [← Nat.pow_add, show m + 2 + (j + 1) = j + m + 1 + 1 + 1 from by omega] at h1
    omega
  have eu := pv_zero_above us (j + m + 1 + 1 + 1) (zero_above us _ hlim)
  rw [pv, pv, pv] at eu
  have ev := pv_all vs (m + 1 + 1) (Nat.le_of_eq hvl)
  rw [pv, pv] at ev
  have hlo := pv_lt us huw (j + m)
  have hV0 := pv_lt vs hvw m
  have hx2 := huw (j + m + 1 + 1)
  have hx1 := huw (j + m + 1)
  have hx0 := huw (j + m)
  have hv2 := hvw m
  have hv1 := hvw (m + 1)
  rw [Nat.pow_add] at hlo
  have hlt2 : natVal us < natVal vs * 4294967296 ^ j * 4294967296 := by rw [Nat.mul_assoc, ← Nat.pow_succ]; exact hlt
  have hW : 0 < 4294967296 ^ j := Nat.pos_of_ne_zero (by simp)
  simp only [Nat.pow_succ, Nat.pow_add] at eu ev
  generalize us.getD (j + m + 1 + 1) 0 = x2 at *
  generalize us.getD (j + m + 1) 0 = x1 at *
  generalize us.getD (j + m) 0 = x0 at *
  generalize vs.getD (m + 1) 0 = v1 at *
  generalize vs.getD m 0 = v2 at *
  generalize pv us (j + m) = lo at *
  generalize pv vs m = V0 at *
  generalize natVal us = Nu at *
  generalize natVal vs = V at *
  generalize 4294967296 ^ j = W at *
  generalize 4294967296 ^ m = P at *
  clear hVl hlt
  have hN : Nu = lo + W * P * (x0 + 4294967296 * (x2 * 4294967296 + x1)) := by rw [← eu]; grind
  have hV : V = V0 + P * (v2 + 4294967296 * v1) := by rw [← ev]; grind
  clear eu ev
  have hP : 0 < P := by omega
  have hVpos : 0 < V := by
    have : P * 1 ≤ P * (v2 + 4294967296 * v1) := Nat.mul_le_mul_left _ (by omega)
    omega
  have hX : 0 < V * W := Nat.mul_pos hVpos hW
  have hqlo : Nu / (V * W) * (V * W) ≤ Nu := Nat.div_mul_le_self _ _
  have hqhi : Nu < (Nu / (V * W) + 1) * (V * W) := by
    have := Nat.div_add_mod Nu (V * W)
    have := Nat.mod_lt Nu hX
    rw [Nat.add_mul, Nat.one_mul, Nat.mul_comm]; omega
  have hqB := digit_lt _ _ _ hqlo hlt2
  have hx2v := first_le V W Nu lo P x0 x1 x2 v1 v2 V0 hN hlt2 hV hV0 hv2
  generalize Nu / (V * W) = q at *
  have hv1p : 0 < v1 := by omega
  refine ⟨⟨?_, ?_⟩, fun g r hg ht => ?_, fun g r hg ht => ?_, fun g r hg => ?_, hqlo, hqhi, hlim⟩
  · rw [Nat.le_div_iff_mul_le hv1p]
    exact guess_ge q V W Nu lo P x0 _ v1 v2 V0 hqlo hN hlo hx0 hV
  · rw [Nat.mul_comm]; exact Nat.div_add_mod _ _
  · obtain ⟨h1, h2⟩ := hg
    have h3 : q + 1 ≤ g := by
      rcases ht with ht | ht
      · omega
      · exact guess_dec q g r V W Nu lo P x0 _ v1 v2 V0 hqlo hN hlo hV h1 h2 ht
    obtain ⟨g', rfl⟩ : ∃ g', g = g' + 1 := ⟨g - 1, by omega⟩
    refine ⟨by omega, by omega, ?_⟩
    rw [Nat.add_sub_cancel]
    rw [Nat.add_mul, Nat.one_mul] at h2
    omega
  · obtain ⟨h1, h2⟩ := hg
    have h3 : g < 4294967296 := by
      rcases ht with ht | ht
      · exact ht.1
      · exact guess_small g r _ v1 x1 x2 h2 rfl hx1 hx2v ht
    have h4 : g * v2 ≤ r * 4294967296 + x0 := by
      rcases ht with ht | ht
      · exact ht.2
      · have := prod2_lt g v2 h3 hv2
        omega
    exact ⟨h3, h1, guess_final g q _ Nu (guess_le g r V W Nu lo P x0 _ v1 v2 V0 hN hV hV0 h2 h4 (Nat.le_of_lt h3) hv1p) hqhi⟩
  · obtain ⟨h1, h2⟩ := hg
    apply Nat.le_of_not_lt
    intro hh
    have := Nat.mul_le_mul (show 8589934593 ≤ g from hh) htop
    omega

theorem Digits.prod {Nu V W q x2 x1 x0 v1 v2 T g : Nat} (_h : Digits Nu V W q x2 x1 x0 v1 v2 T) (hg : g < 4294967296) (hv : v2 < 4294967296) (r : Nat) (hr : r < 4294967296) (hx : x0 < 4294967296) :
    ∃ p : Nat, (g : Int) * (v2 : Int) = (p : Int) ∧ p ≤ 18446744065119617025 ∧ g * v2 = p ∧ bits .or .u64 ((r : Int) * 4294967296) (x0 : Int) = ((r * 4294967296 + x0 : Nat) : Int) := by
  refine ⟨g * v2, by simp, prod2_lt g v2 hg hv, rfl, ?_⟩
  have := u64_or_nat (r * 4294967296) x0 (by omega) (by omega)
  rw [nat_join 32 _ _ (by omega) (by omega)] at this
  simpa using this

theorem wrap_div (a b : Nat) (ha : a < 18446744073709551616) : IntKind.u64.wrap ((a : Int) / (b : Int)) = ((a / b : Nat) : Int) := by
  have h := Nat.div_le_self a b
  rw [IntKind.wrap_u64, ← Int.natCast_ediv]
  generalize a / b = q at *
  omega

/-- The next state, behind the store of the digit. -/
theorem DOut.next {w1 wr : World} {gu gq N M A j q : Nat} {vs us qs : List Nat} (h : DEnd w1 gu gq N M qs (natVal us - q * (natVal vs * 4294967296 ^ j)) wr) (hj : j < M) (hqB : q < 4294967296)
    (hA : natVal qs * natVal vs + natVal us = A) (hq0 : ∀ i, i < j + 1 → qs.getD i 0 = 0) (hlo : q * (natVal vs * 4294967296 ^ j) ≤ natVal us) (hhi : natVal us < (q + 1) * (natVal vs * 4294967296 ^ j)) :
    wr.frozen? ⟨gq, j, none⟩ = false ∧ (∃ o : Nat, wr.cell? ⟨gq, j, none⟩ = some (.int .u32 o)) ∧ DOut w1 gu gq N M vs A j (wr.setCell ⟨gq, j, none⟩ (.int .u32 (q : Nat))) := by
  obtain ⟨us', t, hR⟩ := h
  obtain ⟨c1, c2⟩ := t.cellQ j hj
  refine ⟨c2, ⟨_, c1⟩, us', _, t.setQ j q hj hqB, ?_, ?_, fun i hi => ?_⟩
  · have e := natVal_set qs j q (by rw [t.lq]; exact hj)
    rw [hq0 j (by omega), Nat.mul_zero, Nat.add_zero] at e
    have h1 : (natVal qs + 4294967296 ^ j * q) * natVal vs = natVal qs * natVal vs + q * (natVal vs * 4294967296 ^ j) := by
      generalize 4294967296 ^ j = W
      grind
    rw [e, hR, h1]
    omega
  · rw [hR]
    rw [Nat.add_mul, Nat.one_mul] at hhi
    omega
  · rw [getD_set _ _ _ _ (by rw [t.lq]; exact hj), if_neg (by omega)]; exact hq0 i (by omega)

/-- The end: quotient and remainder, the latter still shifted. -/
theorem DOut.fin {w1 wr : World} {gu gq n1 n2 x y s : Nat} {vs : List Nat} (hd : DivNums x y s n1 n2 vs) (h : DOut w1 gu gq (n1 + 1) (n1 + 1 - n2) vs (x * 2 ^ s) 0 wr) (hn : n2 ≤ n1) (hb : n1 ≤ 268435456) (hy : 0 < y) :
    ∃ us qs, Wd wr (some ⟨gq, 0, none⟩) (n1 + 1 - n2) (n1 + 1 - n2) qs ∧ natVal qs = x / y ∧ Wd wr (some ⟨gu, 0, none⟩) n2 (n1 + 1) us ∧ natVal us = x % y * 2 ^ s ∧ Ext w1 wr := by
  obtain ⟨us, qs, t, hA, hlt, _⟩ := h
  rw [Nat.pow_zero, Nat.mul_one] at hlt
  have hw1 := t.oq.wd t.wq (n1 + 1 - n2) (Nat.le_of_eq t.lq) (by omega)
  have hw2 := t.ou.wd t.wu (n1 + 1) (Nat.le_of_eq t.lu) (by omega)
  rw [t.lq] at hw1
  rw [t.lu] at hw2
  have hp : 0 < 2 ^ s := Nat.pos_of_ne_zero (by simp)
  have hV := natVal_lt vs hd.words
  rw [hd.len] at hV
  have hz := zero_above us n2 (Nat.lt_trans hlt hV)
  rw [hd.v] at hA hlt
  have hY : 0 < y * 2 ^ s := Nat.mul_pos hy hp
  refine ⟨us.take n2, qs, hw1, ?_, hw2.take n2 (by omega), ?_, t.ext⟩
  · have : x * 2 ^ s / (y * 2 ^ s) = natVal qs := by
      rw [← hA, Nat.mul_comm (natVal qs), Nat.mul_add_div hY, Nat.div_eq_of_lt hlt, Nat.add_zero]
    rw [← this, Nat.mul_div_mul_right _ _ hp]
  · rw [← pv_take, pv_zero_above us n2 hz]
    have : x * 2 ^ s % (y * 2 ^ s) = natVal us := by
      rw [← hA, Nat.mul_comm (natVal qs), Nat.mul_add_mod, Nat.mod_eq_of_lt hlt]
    rw [← this, Nat.mul_mod_mul_right]

/-- All that a round of the outer loop begins with. -/
structure Rf (w1 : World) (gu gq n1 M n2 bv offv : Nat) (vs : List Nat) (A j : Nat) (wr : World) (us qs : List Nat) (q x2 x1 x0 v1 v2 : Nat) : Prop where
  two : Two w1 gu gq (n1 + 1) M us qs wr
  hA : natVal qs * natVal vs + natVal us = A
  hq0 : ∀ i, i < j + 1 → qs.getD i 0 = 0
  dig : Digits (natVal us) (natVal vs) (4294967296 ^ j) q x2 x1 x0 v1 v2 (4294967296 ^ (j + n2 + 1))
  ms : DMs w1 gu gq (n1 + 1) M vs us qs 0 j 0 0 0 wr
  x2e : us.getD (j + n2) 0 = x2
  x2l : x2 < 4294967296
  x1l : x1 < 4294967296
  x0l : x0 < 4294967296
  v1t : 2147483648 ≤ v1
  v1l : v1 < 4294967296
  v2l : v2 < 4294967296
  c2 : wr.cell? ⟨gu, j + n2, none⟩ = some (.int .u32 (x2 : Nat))
  c1 : wr.cell? ⟨gu, j + n2 - 1, none⟩ = some (.int .u32 (x1 : Nat))
  c0 : wr.cell? ⟨gu, j + n2 - 2, none⟩ = some (.int .u32 (x0 : Nat))
  d1 : wr.cell? ⟨bv, offv + (n2 - 1), none⟩ = some (.int .u32 (v1 : Nat))
  d2 : wr.cell? ⟨bv, offv + (n2 - 2), none⟩ = some (.int .u32 (v2 : Nat))
  or1 : bits .or .u64 ((x2 : Int) * 4294967296) (x1 : Int) = ((x2 * 4294967296 + x1 : Nat) : Int)
  fl : x2 * 4294967296 + x1 < 18446744073709551616
  fr : (x2 * 4294967296 + x1) % v1 < 4294967296
  qB : q < 4294967296

theorem Rf.start {w1 wr wx : World} {gu gq n1 M n2 bv offv A j q x2 x1 x0 v1 v2 : Nat} {vs us qs : List Nat} (h : Rf w1 gu gq n1 M n2 bv offv vs A j wr us qs q x2 x1 x0 v1 v2) (g : Nat) (e : Ext wr wx) :
    DMs w1 gu gq (n1 + 1) M vs us qs g j 0 0 0 wx := ⟨us, h.two.after e, by simp [pv], fun _ _ => rfl⟩
theorem DOut.round {w1 wr : World} {gu gq n1 M n2 bv offv cv x y s A j : Nat} {vs : List Nat} (h : DOut w1 gu gq (n1 + 1) M vs A (j + 1) wr) (hd : DivNums x y s n1 n2 vs) (hv : Wd w1 (some ⟨bv, offv, none⟩) n2 cv vs)
    (hn : 2 ≤ n2) (hj : j + 1 ≤ M) (hM : M + n2 ≤ n1 + 1) : ∃ us qs q x2 x1 x0 v1 v2, Rf w1 gu gq n1 M n2 bv offv vs A j wr us qs q x2 x1 x0 v1 v2 := by
  obtain ⟨us, qs, two, hA, hlt, hq0⟩ := h
  have D := digits us vs n2 j hn two.wu hd.words hd.len hd.top hlt
  have hv1 := hd.words (n2 - 1)
  have hv1t := hd.top
  have hx2 := two.wu (j + n2)
  have hx1 := two.wu (j + n2 - 1)
  have hv := hv.ext two.ext
  refine ⟨us, qs, _, _, _, _, _, _, two, hA, hq0, D, ⟨us, two, by simp, fun i _ => rfl⟩, rfl, hx2, hx1, two.wu _, hv1t, hv1, hd.words _, (two.cellU _ (by omega)).1, (two.cellU _ (by omega)).1, (two.cellU _ (by omega)).1, hv.cell _ (by omega), hv.cell _ (by omega), ?_, ?_, ?_, ?_⟩
  · have := u64_or_nat (us.getD (j + n2) 0 * 4294967296) (us.getD (j + n2 - 1) 0) (by omega) (by omega)
    rw [nat_join 32 _ _ (by omega) (by omega)] at this
    simpa using this
  · omega
  · exact Nat.lt_trans (Nat.mod_lt _ (by omega)) hv1
  · exact digit_lt _ _ _ D.lo (by rw [Nat.mul_assoc, ← Nat.pow_succ]; exact hlt)
theorem DMe.pick {w1 wr : World} {gu gq N M g j n V W b q x2 x1 x0 v1 v2 : Nat} {us0 qs : List Nat} (h : DMe w1 gu gq N M us0 qs g j n V b wr) (hd : Digits (natVal us0) V W q x2 x1 x0 v1 v2 (4294967296 ^ (j + n + 1))) (hW : W = 4294967296 ^ j)
    (hg : q ≤ g ∧ g ≤ q + 1) (hb : b ≤ 1) : (b = 0 → g = q) ∧ (b = 1 → g = q + 1) := by
  subst hW
  exact h.guess hd.lim hd.lo hd.hi hg.1 hg.2 hb
/-- No borrow: the guess is the digit. -/
theorem DMe.yes {w1 wr : World} {gu gq n1 M n2 bv offv A j q x2 x1 x0 v1 v2 g : Nat} {vs us qs : List Nat} {wx : World} (h : DMe w1 gu gq (n1 + 1) M us qs g j n2 (natVal vs) 0 wx)
    (r : Rf w1 gu gq n1 M n2 bv offv vs A j wr us qs q x2 x1 x0 v1 v2) (hg : q ≤ g ∧ g ≤ q + 1) (hj : j < M) :
    wx.frozen? ⟨gq, j, none⟩ = false ∧ (∃ o : Nat, wx.cell? ⟨gq, j, none⟩ = some (.int .u32 o)) ∧ DOut w1 gu gq (n1 + 1) M vs A j (wx.setCell ⟨gq, j, none⟩ (.int .u32 (g : Nat))) := by
  have e := (h.pick r.dig rfl hg (by omega)).1 rfl
  subst e
  exact DOut.next h.noBorrow hj r.qB r.hA r.hq0 r.dig.lo r.dig.hi
/-- A borrow: the guess is one too great. -/
theorem DMe.no {w1 wr : World} {gu gq n1 M n2 bv offv A j q x2 x1 x0 v1 v2 g : Nat} {vs us qs : List Nat} {wx : World} (h : DMe w1 gu gq (n1 + 1) M us qs g j n2 (natVal vs) 1 wx)
    (r : Rf w1 gu gq n1 M n2 bv offv vs A j wr us qs q x2 x1 x0 v1 v2) (hg : q ≤ g ∧ g ≤ q + 1) (hj : j < M) (hN : j + n2 < n1 + 1) (hvl : vs.length = n2) :
    g = q + 1 ∧ ∃ us1, DAb w1 gu gq (n1 + 1) M vs us1 qs j 0 0 wx ∧
      ∀ wy c, c ≤ 1 → DAb w1 gu gq (n1 + 1) M vs us1 qs j n2 c wy → ∃ x : Nat, x < 4294967296 ∧ wy.cell? ⟨gu, j + n2, none⟩ = some (.int .u32 (x : Nat)) ∧ wy.frozen? ⟨gu, j + n2, none⟩ = false ∧
        ∀ wz, wz = wy.setCell ⟨gu, j + n2, none⟩ (.int .u32 (((x + c) % 4294967296 : Nat) : Int)) →
        wz.frozen? ⟨gq, j, none⟩ = false ∧ (∃ o : Nat, wz.cell? ⟨gq, j, none⟩ = some (.int .u32 o)) ∧ DOut w1 gu gq (n1 + 1) M vs A j (wz.setCell ⟨gq, j, none⟩ (.int .u32 (q : Nat))) := by
  have e := (h.pick r.dig rfl hg (by omega)).2 rfl
  obtain ⟨us1, a, b, z⟩ := h.toAb (vs := vs) r.dig.lim
  refine ⟨e, us1, a, fun wy c hc hab => ?_⟩
  have hq : (g - 1) * (natVal vs * 4294967296 ^ j) ≤ natVal us := by rw [e, Nat.add_sub_cancel]; exact r.dig.lo
  obtain ⟨c1, c2, c3, c4⟩ := hab.last hN hc hvl b (by omega) hq z
  refine ⟨_, c3, c1, c2, fun wz hz => ?_⟩
  subst hz
  rw [e, Nat.add_sub_cancel] at c4
  exact DOut.next c4 hj r.qB r.hA r.hq0 r.dig.lo r.dig.hi

end Go.Proofs.YtpflfagjkmeeiaaDoor
