/-
 The reference package: contracts in the form of facts. Every two integers of at most 2^26 words.
-/
import Derived.Test.YtkeikfekkdplgaaGreatDoorRDivide
namespace Go.Proofs.YtkeikfekkdplgaaGreatDoor
open Go Go.RowKit

theorem RAdd_f {k1 k2 : Nat} {z1 z2 : Int} {x y : Value} {w : World} (hx : IsI k1 z1 x w) (hy : IsI k2 z2 y w) (l1 : k1 ≤ 268435456) (l2 : k2 ≤ 268435456) : Calls Tryz.prog 51 #[x, y] w (Ret w (IsI (max k1 k2 + 1) (z1 + z2))) := by
 obtain ⟨s, a, n, c, rfl, h1⟩ := hx; obtain ⟨s', a', n', c', rfl, h2⟩ := hy
 exact Calls.mono (RAdd_c w s s' a a' n n' c c' k1 k2 z1 z2 h1 h2 l1 l2) fun _ _ h => h.ret
theorem RSub_f {k1 k2 : Nat} {z1 z2 : Int} {x y : Value} {w : World} (hx : IsI k1 z1 x w) (hy : IsI k2 z2 y w) (l1 : k1 ≤ 268435456) (l2 : k2 ≤ 268435456) : Calls Tryz.prog 52 #[x, y] w (Ret w (IsI (max k1 k2 + 1) (z1 - z2))) := by
 obtain ⟨s, a, n, c, rfl, h1⟩ := hx; obtain ⟨s', a', n', c', rfl, h2⟩ := hy
 exact Calls.mono (RSub_c w s s' a a' n n' c c' k1 k2 z1 z2 h1 h2 l1 l2) fun _ _ h => h.ret
theorem RNeg_f {k1 : Nat} {z1 : Int} {x : Value} {w : World} (hx : IsI k1 z1 x w) : Calls Tryz.prog 76 #[x] w (Ret w (IsI k1 (-z1))) := by
 obtain ⟨s, a, n, c, rfl, h1⟩ := hx
 exact Calls.mono (RNeg_c w s a n c k1 z1 h1) fun _ _ h => h.ret
theorem RAbs_f {k1 : Nat} {z1 : Int} {x : Value} {w : World} (hx : IsI k1 z1 x w) : Calls Tryz.prog 124 #[x] w (Ret w (IsI k1 z1.natAbs)) := by
 obtain ⟨s, a, n, c, rfl, h1⟩ := hx
 exact Calls.mono (RAbs_c w s a n c k1 z1 h1) fun _ _ h => h.ret
theorem RSign_f {k1 : Nat} {z1 : Int} {x : Value} {w : World} (hx : IsI k1 z1 x w) : Calls Tryz.prog 91 #[x] w (Ret w (IsV (.int .i64 z1.sign))) := by
 obtain ⟨s, a, n, c, rfl, h1⟩ := hx
 exact Calls.mono (RSign_c w s a n c k1 z1 h1) fun _ _ h => h.ret
theorem IsI.int {k : Nat} {z : Int} {w : World} {s : Bool} {a : Option Addr} {n c : Nat} (h : IsI k z (.agg #[.bool s, .slice a n c]) w) : IntAt w k s a n c z := by
 obtain ⟨s', a', n', c', h1, h2⟩ := h
 simp only [Value.agg.injEq, Array.mk.injEq, List.cons.injEq, Value.bool.injEq, Value.slice.injEq, and_true] at h1
 obtain ⟨rfl, rfl, rfl, rfl⟩ := h1
 exact h2
theorem IsI.neg' {k : Nat} {z : Int} {w : World} {s : Bool} {a : Option Addr} {n c : Nat} (h : IsI k z (.agg #[.bool s, .slice a n c]) w) (hz : z < 0) : s = true := h.int.neg_iff.1 hz
theorem IsI.pos' {k : Nat} {z : Int} {w : World} {s : Bool} {a : Option Addr} {n c : Nat} (h : IsI k z (.agg #[.bool s, .slice a n c]) w) (hz : 0 ≤ z) : s = false := by
 cases s
 ·rfl
 ·have := h.int.neg_iff.2 rfl; omega
theorem St.ne {w0 w : World} {B : List (Nat × (Value → World → Prop))} (h : St w0 w B) (i j : Nat) (p q : Nat × (Value → World → Prop)) (hi : B[i]? = some p) (hj : B[j]? = some q) (hij : i ≠ j) : p.1 ≠ q.1 := by
 obtain ⟨hi1, hi2⟩ := List.getElem?_eq_some_iff.1 hi
 obtain ⟨hj1, hj2⟩ := List.getElem?_eq_some_iff.1 hj
 rcases Nat.lt_or_gt_of_ne hij with hlt | hlt
 ·have := List.pairwise_iff_getElem.1 h.apart i j hi1 hj1 hlt
  rwa [hi2, hj2] at this
 ·have := List.pairwise_iff_getElem.1 h.apart j i hj1 hi1 hlt
  rw [hi2, hj2] at this; exact this.symm
end Go.Proofs.YtkeikfekkdplgaaGreatDoor
