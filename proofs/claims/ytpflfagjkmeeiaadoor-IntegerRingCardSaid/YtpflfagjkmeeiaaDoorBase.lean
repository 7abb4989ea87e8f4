/-
  Words and small laws that all walks of this claim use: 'Ext' (the heap has grown and nothing that was there has changed), slices of words, naturals and integers in memory. No condition.
-/
import Derived.WalkKit
import Derived.WalkSmall
import Derived.Deep.QuietTactic
import Derived.BigQuiet
namespace Go.Proofs.YtpflfagjkmeeiaaDoor
open Go Go.RowKit

theorem hid {p : Prop} (h : p) : Hid p := h

/-- The heap has grown; what was there is as it was. -/
def Ext (w w' : World) : Prop := Below w.heap.size w w'
theorem Ext.refl (w : World) : Ext w w := Below.refl _ _
theorem Ext.trans {a b c : World} (h : Ext a b) (k : Ext b c) : Ext a c := Below.trans h (Below.mono k (Below.size h))
theorem Ext.size {a b : World} (h : Ext a b) : a.heap.size ≤ b.heap.size := Below.size h
theorem Ext.alloc {a w : World} (h : Ext a w) (o : Obj) : Ext a (w.alloc o) := Below.alloc h (Below.size h) o
theorem Ext.drew {a w : World} (h : Ext a w) : Ext a w.drew := Below.drew h
theorem Ext.drewN {a w : World} (h : Ext a w) (n : Nat) : Ext a (w.drewN n) := below_drewN h n
theorem Ext.set {a w : World} (h : Ext a w) {p : Addr} (hp : a.heap.size ≤ p.block) (u : Value) : Ext a (w.setCell p u) := Below.setCell h hp u
theorem Ext.cell {a w : World} (h : Ext a w) {p : Addr} {v : Value} (hc : a.cell? p = some v) : w.cell? p = some v :=
  (Below.cell h (World.block_lt_of_cell? a p hc)).trans hc
theorem Ext.frozen {a w : World} (h : Ext a w) {p : Addr} (hp : p.block < a.heap.size) : w.frozen? p = a.frozen? p := Below.frozen h hp

/-- The number that words stand for, the least significant word first. -/
def natVal : List Nat → Nat
  | [] => 0
  | x :: xs => x + 4294967296 * natVal xs

/-- The slice (ao, n, cap) holds the words xs. -/
structure Wd (w : World) (ao : Option Addr) (n cap : Nat) (xs : List Nat) : Prop where
  len : xs.length = n
  capo : n ≤ cap
  big : cap ≤ 9223372036854775807
  lt : ∀ i, xs.getD i 0 < 4294967296
  at_ : n = 0 ∨ ∃ b off, ao = some ⟨b, off, none⟩ ∧ b < w.heap.size ∧ ∀ j, j < n → w.cell? ⟨b, off + j, none⟩ = some (.int .u32 ((xs.getD j 0 : Nat) : Int))

theorem Wd.ext {w w' : World} {ao : Option Addr} {n cap : Nat} {xs : List Nat} (h : Wd w ao n cap xs) (e : Ext w w') : Wd w' ao n cap xs :=
  ⟨h.len, h.capo, h.big, h.lt, h.at_.imp id fun ⟨b, off, h1, h2, h3⟩ => ⟨b, off, h1, Nat.lt_of_lt_of_le h2 e.size, fun j hj => e.cell (h3 j hj)⟩⟩

/-- A natural number in memory: words without zeros at the end, at most k of them. -/
def NatAt (w : World) (k : Nat) (ao : Option Addr) (n cap : Nat) (m : Nat) : Prop :=
  ∃ xs, Wd w ao n cap xs ∧ n ≤ k ∧ (0 < n → xs.getD (n - 1) 0 ≠ 0) ∧ natVal xs = m
theorem NatAt.ext {w w' : World} {k n cap m : Nat} {ao : Option Addr} (h : NatAt w k ao n cap m) (e : Ext w w') : NatAt w' k ao n cap m :=
  let ⟨xs, h1, h2⟩ := h; ⟨xs, h1.ext e, h2⟩
theorem NatAt.mono {w : World} {k k' n cap m : Nat} {ao : Option Addr} (h : NatAt w k ao n cap m) (e : k ≤ k') : NatAt w k' ao n cap m :=
  let ⟨xs, h1, h2, h3⟩ := h; ⟨xs, h1, Nat.le_trans h2 e, h3⟩
theorem NatAt.le {w : World} {k n cap m : Nat} {ao : Option Addr} (h : NatAt w k ao n cap m) : n ≤ k := let ⟨_, _, h2, _⟩ := h; h2
theorem NatAt.capo {w : World} {k n cap m : Nat} {ao : Option Addr} (h : NatAt w k ao n cap m) : n ≤ cap := let ⟨_, h1, _⟩ := h; h1.capo

/-- An integer in memory. -/
def IntAt (w : World) (k : Nat) (neg : Bool) (ao : Option Addr) (n cap : Nat) (z : Int) : Prop :=
  ∃ m, NatAt w k ao n cap m ∧ (n = 0 → neg = false) ∧ z = if neg then -(m : Int) else m
theorem IntAt.ext {w w' : World} {k n cap : Nat} {neg : Bool} {z : Int} {ao : Option Addr} (h : IntAt w k neg ao n cap z) (e : Ext w w') : IntAt w' k neg ao n cap z :=
  let ⟨m, h1, h2⟩ := h; ⟨m, h1.ext e, h2⟩
theorem IntAt.mono {w : World} {k k' n cap : Nat} {neg : Bool} {z : Int} {ao : Option Addr} (h : IntAt w k neg ao n cap z) (e : k ≤ k') : IntAt w k' neg ao n cap z :=
  let ⟨m, h1, h2⟩ := h; ⟨m, h1.mono e, h2⟩

/-! ### What calls hand back -/
def RNat (w0 : World) (k m : Nat) (e : Ending) (w' : World) : Prop :=
  ∃ ao n cap, e = .returned (.slice ao n cap) ∧ Ext w0 w' ∧ NatAt w' k ao n cap m
def RInt (w0 : World) (k : Nat) (z : Int) (e : Ending) (w' : World) : Prop :=
  ∃ neg ao n cap, e = .returned (.agg #[.bool neg, .slice ao n cap]) ∧ Ext w0 w' ∧ IntAt w' k neg ao n cap z
/-- Hands back a plain value; the world at most grows. -/
def RVal (w0 : World) (v : Value) (e : Ending) (w' : World) : Prop := e = .returned v ∧ Ext w0 w'

/-- Hands back v and leaves the world alone. -/
def RSame (w : World) (v : Value) (e : Ending) (w' : World) : Prop := e = .returned v ∧ w = w'
theorem RSame.mk' {w : World} {v u : Value} (h : v = u) : RSame w u (.returned v) w := ⟨by rw [h], rfl⟩
theorem quiet_same {P : Program} {f : FuncId} {args : Array Value} {w : World} {n : Nat} {v : Value} (h : Calls P f args (w.drewN n) (RSame (w.drewN n) v)) :
    Calls P f args (w.drewN n) fun e w'' => e = .returned v ∧ ∃ m, w'' = w.drewN m :=
  h.mono fun _ _ ⟨he, hm⟩ => ⟨he, n, hm.symm⟩

/-! ### Plain laws on words -/
theorem natVal_append (xs ys : List Nat) : natVal (xs ++ ys) = natVal xs + 4294967296 ^ xs.length * natVal ys := by
  induction xs with
  | nil => simp [natVal]
  | cons x xs ih => simp [natVal, ih, Nat.pow_succ]; grind

theorem natVal_lt (xs : List Nat) (h : ∀ i, xs.getD i 0 < 4294967296) : natVal xs < 4294967296 ^ xs.length := by
  induction xs with
  | nil => simp [natVal]
  | cons x xs ih =>
    have h0 := h 0
    have h1 := ih (fun i => by simpa using h (i + 1))
    simp only [natVal, List.length_cons, Nat.pow_succ]
    simp at h0
    omega

theorem natVal_take_succ (xs : List Nat) (k : Nat) (h : k < xs.length) :
    natVal (xs.take (k + 1)) = natVal (xs.take k) + 4294967296 ^ k * xs.getD k 0 := by
  rw [List.take_add_one, natVal_append]
  simp [h, natVal, List.getD, Nat.min_eq_left (Nat.le_of_lt h)]

theorem getD_take (xs : List Nat) (k i : Nat) (h : i < k) : (xs.take k).getD i 0 = xs.getD i 0 := by
  simp [List.getD, h]

/-- Zeros at the end do not count. -/
theorem natVal_take_zero (xs : List Nat) (k : Nat) (h : xs.getD k 0 = 0) : natVal (xs.take (k + 1)) = natVal (xs.take k) := by
  by_cases hk : k < xs.length
  · rw [natVal_take_succ xs k hk, h]; simp
  · rw [List.take_of_length_le (by omega), List.take_of_length_le (by omega)]

theorem Wd.take {w : World} {ao : Option Addr} {n cap : Nat} {xs : List Nat} (h : Wd w ao n cap xs) (k : Nat) (hk : k ≤ n) : Wd w ao k cap (xs.take k) := by
  have hl := h.len
  refine ⟨by simp; omega, by have := h.capo; omega, h.big, fun i => ?_, ?_⟩
  · have := h.lt i
    by_cases hi : i < k
    · rw [getD_take _ _ _ hi]; exact this
    · simp [List.getD, List.getElem?_take, hi]
  · rcases h.at_ with h0 | ⟨b, off, h1, h2, h3⟩
    · left; omega
    · refine .inr ⟨b, off, h1, h2, fun j hj => ?_⟩
      rw [getD_take _ _ _ hj]; exact h3 j (by omega)

/-- Nothing there, or an address. -/
theorem Wd.shape {w : World} {ao : Option Addr} {n cap : Nat} {xs : List Nat} (h : Wd w ao n cap xs) : n ≤ 0 ∨ ∃ b off, ao = some ⟨b, off, none⟩ ∧ b < w.heap.size :=
  h.at_.imp Nat.le_of_eq fun ⟨b, off, h1, h2, _⟩ => ⟨b, off, h1, h2⟩
theorem Wd.cell {w : World} {b off n cap : Nat} {xs : List Nat} (h : Wd w (some ⟨b, off, none⟩) n cap xs) (k : Nat) (hk : k < n) : w.cell? ⟨b, off + k, none⟩ = some (.int .u32 ((xs.getD k 0 : Nat) : Int)) := by
  rcases h.at_ with h0 | ⟨b', off', h1, _, h3⟩
  · omega
  · simp only [Option.some.injEq, Addr.mk.injEq, and_true] at h1
    obtain ⟨rfl, rfl⟩ := h1
    exact h3 k hk
theorem wd_nil (w : World) (ao : Option Addr) (cap : Nat) (h : cap ≤ 9223372036854775807) : Wd w ao 0 cap [] :=
  ⟨rfl, Nat.zero_le _, h, fun i => by simp, .inl rfl⟩
end Go.Proofs.YtpflfagjkmeeiaaDoor
