/-
 Package eval, plain laws: what counts and searches over fixed expressions come to. No program in sight. Ranges of numbers, steps as told.
-/
import Derived.Test.YtkeikfekkdplgaaGreatDoorEv6
namespace Go.Proofs.YtkeikfekkdplgaaGreatDoor
section
variable {σ : Type} {f : Int → Mst σ → Res Kn × Mst σ} {fst : Bool} {hi : Int} {s : σ} {c : Nat} {opn last : Int} {q : Kn}
theorem srch_go {k : Nat} {t : Tr} {l : Nat} (h : t.next ≤ hi ∧ 0 < l) : srch f fst hi (k + 1) t (l, s) = match f t.next (l - 1, s) with
   | (.error n, st') => (.error n, st')
   | (.ok q, st') => match t.step fst q with
    | (t', true) => (.ok t', st')
    | (t', false) => srch f fst hi k t' st' := by
 rw [srch]
 exact if_pos h
theorem srch_no {k : Nat} {t : Tr} {l : Nat} (h : ¬ (t.next ≤ hi ∧ 0 < l)) : srch f fst hi k t (l, s) = (.ok (t.stop hi), (l, s)) := by
 cases k with
 | zero => rfl
 | succ k => rw [srch]; exact if_neg h
/-- A stretch of numbers that are none. -/
theorem srch_zero {first sure : Int} {k : Nat} : ∀ (d : Nat) (a : Int) (l : Nat), (∀ i l, a ≤ i → i < a + d → f i (l + c, s) = (.ok ⟨0, 0, true⟩, (l, s))) → a + d ≤ hi + 1 →
  srch f fst hi (k + d) ⟨sure, opn, first, last, a, true⟩ (l + d * (c + 1), s) = srch f fst hi k ⟨sure, opn, first, last, a + d, true⟩ (l, s)
 | 0, a, l, _, _ => by simp
 | d + 1, a, l, hf, hb => by
  have e1 : l + (d + 1) * (c + 1) - 1 = (l + d * (c + 1)) + c := by rw [Nat.add_mul]; omega
  rw [← Nat.add_assoc, srch_go ⟨by simp only; omega, by rw [Nat.add_mul]; omega⟩, e1, hf a _ (Int.le_refl _) (by omega)]
  simp only [Tr.step, and_self, if_true, Bool.and_self]
  rw [srch_zero d (a + 1) l (fun i l h1 h2 => hf i l (by omega) (by push_cast; omega)) (by push_cast at hb; omega)]
  rw [show a + 1 + (d : Int) = a + ((d + 1 : Nat) : Int) by push_cast; omega]
/-- A stretch of numbers that are all ones. -/
theorem srch_sure (hq : 0 < q.lo ∧ 0 < q.hi ∧ q.fin = true) {k : Nat} : ∀ (d : Nat) (a : Int) (l : Nat) (sure first : Int), (∀ i l, a ≤ i → i < a + d → f i (l + c, s) = (.ok q, (l, s))) → a + d ≤ hi + 1 →
  ∃ first', srch f false hi (k + d) ⟨sure, opn, first, last, a, true⟩ (l + d * (c + 1), s) = srch f false hi k ⟨sure + d, opn, first', last, a + d, true⟩ (l, s)
 | 0, a, l, sure, first, _, _ => ⟨first, by simp⟩
 | d + 1, a, l, sure, first, hf, hb => by
  have e1 : l + (d + 1) * (c + 1) - 1 = (l + d * (c + 1)) + c := by rw [Nat.add_mul]; omega
  obtain ⟨f', h'⟩ := srch_sure hq (k := k) d (a + 1) l (sure + 1) (min first a) (fun i l h1 h2 => hf i l (by omega) (by push_cast; omega)) (by push_cast at hb; omega)
  refine ⟨f', ?_⟩
  rw [← Nat.add_assoc, srch_go ⟨by simp only; omega, by rw [Nat.add_mul]; omega⟩, e1, hf a _ (Int.le_refl _) (by omega)]
  simp only [Tr.step]
  rw [if_neg (by omega), if_neg (by omega)]
  simp only [Bool.false_eq_true, if_false, hq.2.2, Bool.and_self]
  rw [h', show a + 1 + (d : Int) = a + ((d + 1 : Nat) : Int) by push_cast; omega, show sure + 1 + (d : Int) = sure + ((d + 1 : Nat) : Int) by push_cast; omega]
/-- The number that is one. -/
theorem srch_hit (hq : 0 < q.lo ∧ 0 < q.hi ∧ q.fin = true) {first sure a : Int} {k l l' : Nat} {s' : σ} (ha : a ≤ hi) (hf : f a (l, s) = (.ok q, (l', s'))) :
  srch f true hi (k + 1) ⟨sure, opn, first, last, a, true⟩ (l + 1, s) = (.ok ⟨sure + 1, opn, min first a, a, a, true⟩, (l', s')) := by
 rw [srch_go ⟨ha, by omega⟩, Nat.add_sub_cancel, hf]
 simp only [Tr.step]
 rw [if_neg (by omega), if_neg (by omega)]
 simp only [if_true, hq.2.2, Bool.and_self]
end
section
variable {σ : Type} (M : Mem σ) (s : σ) (x : ByteArray)
theorem look_one (i : Int) : look ([] ++ [(x, i)]) x = i := rfl
theorem ev_less (at_ i : Int) (l : Nat) : ev M (.bin 12 (.var x) (.num at_)) ([] ++ [(x, i)]) (l, s) = (.ok (if i < at_ then ⟨1, 1, true⟩ else ⟨0, 0, true⟩), (l, s)) := by
 simp only [ev, look_one, opV, truthV]
 by_cases h : i < at_
 ·simp [h]
 ·have h2 : at_ ≤ i := by omega
  simp [h, h2]
theorem ev_eq (at_ i : Int) (l : Nat) : ev M (.bin 13 (.var x) (.num at_)) ([] ++ [(x, i)]) (l, s) = (.ok (if i = at_ then ⟨1, 1, true⟩ else ⟨0, 0, true⟩), (l, s)) := by
 simp only [ev, look_one, opV, truthV]
 by_cases h : i = at_
 ·subst h; simp
 ·have h2 : i < at_ ∨ at_ < i := by omega
  simp [h, h2]
theorem bitLen_sq : ∀ i : Nat, i < 200 → bitLen (i * i) ≤ 4096 := by decide +kernel
theorem ev_sq (b i : Nat) (hi : i < 200) (hb : b < 200) (l : Nat) : ev M (.bin 13 (.bin 6 (.var x) (.var x)) (.num ((b : Int) * b))) ([] ++ [(x, (i : Int))]) (l, s) = (.ok (if i = b then ⟨1, 1, true⟩ else ⟨0, 0, true⟩), (l, s)) := by
 have hB : ¬ 4096 < max (bitLen ((i : Int) * i).natAbs) (bitLen ((i : Int) * i).natAbs) := by
  rw [Int.natAbs_mul, Int.natAbs_natCast]
  have := bitLen_sq i hi
  omega
 have hm : mul4 ⟨(i : Int), i, true⟩ ⟨(i : Int), i, true⟩ = ⟨(i : Int) * i, (i : Int) * i, false⟩ := by simp [mul4]
 have ho : opV 6 ⟨(i : Int), i, true⟩ ⟨(i : Int), i, true⟩ = .ok ⟨(i : Int) * i, (i : Int) * i, false⟩ := by
  rw [opV, if_neg (by decide), if_neg (by decide), if_pos rfl, hm, shortV, if_neg hB]
 simp only [ev, look_one, ho, Bool.and_self]
 simp only [opV, truthV]
 by_cases h : i = b
 ·subst h; simp
 ·have h2 : (i : Int) * i < b * b ∨ (b : Int) * b < i * i := by
   rcases Nat.lt_or_gt_of_ne h with h | h
   ·left; exact_mod_cast Nat.mul_self_lt_mul_self h
   ·right; exact_mod_cast Nat.mul_self_lt_mul_self h
  have h3 : ¬ (i : Int) * i = b * b := by omega
  simp [h, h2, h3]
theorem ev_num (z i : Int) (y : ByteArray) (l : Nat) (env : Env) : ev M (.num z) (env ++ [(y, i)]) (l, s) = (.ok ⟨z, z, true⟩, (l, s)) := rfl
theorem ev_loop (fst : Bool) (lo hi : Int) (b : Ex) (env : Env) (st : Mst σ) : ev M (.loop fst x lo hi b) env st =
  match srch (fun n st => ev M b (env ++ [(x, n)]) st) fst hi (hi + 1 - lo).toNat ⟨0, 0, hi + 1, hi + 1, lo, true⟩ st with
  | (.error n, st') => (.error n, st')
  | (.ok t, st') => (.ok (if fst then ⟨t.first, t.last, t.fin⟩ else ⟨t.sure, t.sure + t.opn + hi + 1 - t.next, t.fin⟩), st') := by rw [ev]; rfl
/-- below -/
theorem ev_below (lo at_ up : Int) (h1 : lo ≤ at_) (h2 : at_ ≤ up) (n : Nat) (hn : (n : Int) = up + 1 - lo) : ev M (.loop false x lo up (.bin 12 (.var x) (.num at_))) [] (n, s) = (.ok ⟨at_ - lo, at_ - lo, true⟩, (0, s)) := by
 rw [ev_loop]
 obtain ⟨d, hd⟩ : ∃ d : Nat, (d : Int) = at_ - lo := ⟨(at_ - lo).toNat, by omega⟩
 obtain ⟨e, he⟩ : ∃ e : Nat, (e : Int) = up + 1 - at_ := ⟨(up + 1 - at_).toNat, by omega⟩
 obtain ⟨f', hf⟩ := srch_sure (f := fun n st => ev M (.bin 12 (.var x) (.num at_)) ([] ++ [(x, n)]) st) (hi := up) (s := s) (c := 0) (opn := 0) (last := up + 1) (q := ⟨1, 1, true⟩) ⟨by decide, by decide, rfl⟩ (k := e) d lo e 0 (up + 1) (fun i l _ h => by rw [Nat.add_zero, ev_less, if_pos (by omega)]) (by omega)
 have hz := srch_zero (f := fun n st => ev M (.bin 12 (.var x) (.num at_)) ([] ++ [(x, n)]) st) (fst := false) (hi := up) (s := s) (c := 0) (opn := 0) (last := up + 1) (first := f') (sure := 0 + d) (k := 0) e at_ 0 (fun i l h _ => by rw [Nat.add_zero, ev_less, if_neg (by omega)]) (by omega)
 rw [show (up + 1 - lo).toNat = e + d by omega, show n = e + d * (0 + 1) by omega, hf, show lo + (d : Int) = at_ by omega]
 simp only [Nat.zero_add, Nat.mul_one] at hz ⊢
 rw [hz, srch_no (by simp only; omega)]
 simp only [Tr.stop, Bool.false_eq_true, if_false]
 rw [show at_ + (e : Int) = up + 1 by omega]
 simp
 omega
/-- found -/
theorem ev_found (lo at_ up : Int) (h1 : lo ≤ at_) (h2 : at_ ≤ up) (n m : Nat) (hn : (n : Int) = up + 1 - lo) (hm : (m : Int) = up - at_) : ev M (.loop true x lo up (.bin 13 (.var x) (.num at_))) [] (n, s) = (.ok ⟨at_, at_, true⟩, (m, s)) := by
 rw [ev_loop]
 obtain ⟨d, hd⟩ : ∃ d : Nat, (d : Int) = at_ - lo := ⟨(at_ - lo).toNat, by omega⟩
 have hz := srch_zero (f := fun n st => ev M (.bin 13 (.var x) (.num at_)) ([] ++ [(x, n)]) st) (fst := true) (hi := up) (s := s) (c := 0) (opn := 0) (last := up + 1) (first := up + 1) (sure := 0) (k := m + 1) d lo (m + 1) (fun i l _ h => by rw [Nat.add_zero, ev_eq, if_neg (by omega)]) (by omega)
 have hh := srch_hit (f := fun n st => ev M (.bin 13 (.var x) (.num at_)) ([] ++ [(x, n)]) st) (hi := up) (s := s) (opn := 0) (last := up + 1) (q := ⟨1, 1, true⟩) ⟨by decide, by decide, rfl⟩ (first := up + 1) (sure := 0) (a := at_) (k := m) (l := m) (l' := m) (s' := s) h2 (by rw [ev_eq, if_pos rfl])
 rw [show (up + 1 - lo).toNat = m + 1 + d by omega, show n = m + 1 + d * (0 + 1) by omega, hz, show lo + (d : Int) = at_ by omega, hh]
 simp only [if_true]
 rw [show min (up + 1) at_ = at_ by omega]
/-- none -/
theorem ev_none (lo up : Int) (h1 : lo ≤ up + 1) (n : Nat) (hn : (n : Int) = up + 1 - lo) : ev M (.loop true x lo up (.bin 12 (.var x) (.num lo))) [] (n, s) = (.ok ⟨up + 1, up + 1, true⟩, (0, s)) := by
 rw [ev_loop]
 have hz := srch_zero (f := fun n st => ev M (.bin 12 (.var x) (.num lo)) ([] ++ [(x, n)]) st) (fst := true) (hi := up) (s := s) (c := 0) (opn := 0) (last := up + 1) (first := up + 1) (sure := 0) (k := 0) n lo 0 (fun i l h _ => by rw [Nat.add_zero, ev_less, if_neg (by omega)]) (by omega)
 rw [show (up + 1 - lo).toNat = 0 + n by omega]
 simp only [Nat.zero_add, Nat.mul_one] at hz ⊢
 rw [hz, srch_no (by simp only; omega)]
 simp only [Tr.stop, if_true]
 rw [show lo + (n : Int) = up + 1 by omega, decide_eq_true (show up < up + 1 by omega)]
 simp
/-- square -/
theorem ev_square (b m : Nat) (hb : b < 200) (hm : m = 199 - b) : ev M (.loop true x 0 199 (.bin 13 (.bin 6 (.var x) (.var x)) (.num ((b : Int) * b)))) [] (200, s) = (.ok ⟨b, b, true⟩, (m, s)) := by
 rw [ev_loop]
 have hz := srch_zero (f := fun n st => ev M (.bin 13 (.bin 6 (.var x) (.var x)) (.num ((b : Int) * b))) ([] ++ [(x, n)]) st) (fst := true) (hi := 199) (s := s) (c := 0) (opn := 0) (last := 200) (first := 200) (sure := 0) (k := m + 1) b 0 (m + 1) (fun i l h1 h => by
  obtain ⟨j, rfl⟩ : ∃ j : Nat, (j : Int) = i := ⟨i.toNat, by omega⟩
  rw [Nat.add_zero, ev_sq M s x b j (by omega) hb, if_neg (by omega)]) (by omega)
 have hh := srch_hit (f := fun n st => ev M (.bin 13 (.bin 6 (.var x) (.var x)) (.num ((b : Int) * b))) ([] ++ [(x, n)]) st) (hi := 199) (s := s) (opn := 0) (last := 200) (q := ⟨1, 1, true⟩) ⟨by decide, by decide, rfl⟩ (first := 200) (sure := 0) (a := (b : Int)) (k := m) (l := m) (l' := m) (s' := s) (by omega) (by rw [ev_sq M s x b b hb hb, if_pos rfl])
 rw [show ((199 : Int) + 1 - 0).toNat = m + 1 + b by omega, show 200 = m + 1 + b * (0 + 1) by omega]
 rw [show (0 : Int) + (b : Int) = b by omega] at hz
 simp only [Int.reduceAdd] at hz ⊢
 rw [hz, hh]
 simp only [if_true]
 rw [show min (200 : Int) (b : Int) = b by omega]
/-- all of a range -/
theorem ev_all (env : Env) (lo up : Int) (z : Int) (hz : 0 < z) (n l : Nat) (hn : (n : Int) = up + 1 - lo) : ev M (.loop false x lo up (.num z)) env (l + n, s) = (.ok ⟨n, n, true⟩, (l, s)) := by
 rw [ev_loop]
 obtain ⟨f', hf⟩ := srch_sure (f := fun n st => ev M (.num z) (env ++ [(x, n)]) st) (hi := up) (s := s) (c := 0) (opn := 0) (last := up + 1) (q := ⟨z, z, true⟩) ⟨hz, hz, rfl⟩ (k := 0) n lo l 0 (up + 1) (fun i l _ _ => by rw [Nat.add_zero, ev_num]) (by omega)
 rw [show (up + 1 - lo).toNat = n by omega]
 rw [Nat.zero_add, Nat.zero_add, Nat.mul_one] at hf
 rw [hf, srch_no (by simp only; omega)]
 simp only [Tr.stop, Bool.false_eq_true, if_false]
 simp
 omega
/-- a count over a count -/
theorem ev_rows (y : ByteArray) (m l : Nat) (hm : 0 < m) : ev M (.loop false y 1 9 (.loop false x 1 m (.num 1))) [] (l + 9 * (m + 1), s) = (.ok ⟨9, 9, true⟩, (l, s)) := by
 rw [ev_loop]
 obtain ⟨f', hf⟩ := srch_sure (f := fun n st => ev M (.loop false x 1 m (.num 1)) ([] ++ [(y, n)]) st) (hi := 9) (s := s) (c := m) (opn := 0) (last := 10) (q := ⟨(m : Int), (m : Int), true⟩) ⟨by simp only; omega, by simp only; omega, rfl⟩ (k := 0) 9 1 l 0 10 (fun i l _ _ => by
  exact ev_all M s x _ 1 m 1 (by decide) m l (by omega)) (by decide)
 simp only [Int.reduceAdd, Int.reduceSub, Int.toNat, Nat.zero_add] at hf ⊢
 have e : (Int.toNat 9) = 9 := rfl
 rw [hf, srch_no (by simp)]
 simp [Tr.stop]
/-- part of a count -/
theorem ev_part (lo up : Int) (n l : Nat) (hn : (n : Int) = up + 1 - lo) (hl : l < n) : ev M (.loop false x lo up (.num 1)) [] (l, s) = (.ok ⟨l, n, false⟩, (0, s)) := by
 rw [ev_loop]
 obtain ⟨f', hf⟩ := srch_sure (f := fun n st => ev M (.num 1) ([] ++ [(x, n)]) st) (hi := up) (s := s) (c := 0) (opn := 0) (last := up + 1) (q := ⟨1, 1, true⟩) ⟨by decide, by decide, rfl⟩ (k := n - l) l lo 0 0 (up + 1) (fun i l _ _ => by rw [Nat.add_zero, ev_num]) (by omega)
 rw [show (up + 1 - lo).toNat = n - l + l by omega]
 rw [Nat.zero_add, Nat.zero_add, Nat.mul_one] at hf
 rw [hf, srch_no (by simp only; omega)]
 simp only [Tr.stop, Bool.false_eq_true, if_false, Bool.true_and]
 rw [show decide (up < lo + (l : Int)) = false from decide_eq_false (by omega)]
 simp
 omega
/-- part of a search -/
theorem ev_open (lo up : Int) (n l : Nat) (hn : (n : Int) = up + 1 - lo) (hl : l < n) : ev M (.loop true x lo up (.num 0)) [] (l, s) = (.ok ⟨lo + l, up + 1, false⟩, (0, s)) := by
 rw [ev_loop]
 have hz := srch_zero (f := fun n st => ev M (.num 0) ([] ++ [(x, n)]) st) (fst := true) (hi := up) (s := s) (c := 0) (opn := 0) (last := up + 1) (first := up + 1) (sure := 0) (k := n - l) l lo 0 (fun i l _ _ => by rw [Nat.add_zero, ev_num]) (by omega)
 rw [show (up + 1 - lo).toNat = n - l + l by omega]
 rw [Nat.zero_add, Nat.zero_add, Nat.mul_one] at hz
 rw [hz, srch_no (by simp only; omega)]
 simp only [Tr.stop, if_true, Bool.true_and]
 rw [show decide (up < lo + (l : Int)) = false from decide_eq_false (by omega), show min (up + 1) (lo + (l : Int)) = lo + l by omega]
end
end Go.Proofs.YtkeikfekkdplgaaGreatDoor
