/-
  Boxes of a function's own, by their numbers, each with what it holds. No condition.
-/
import Derived.Test.YtpflfagjkmeeiaaDoorKeep
namespace Go.Proofs.YtpflfagjkmeeiaaDoor
open Go Go.RowKit

/-- Since w the boxes of L (block number, cells) have been made, and hold that now; what was there at w is as it was. -/
structure Kq (w w' : World) (L : List (Nat × List Value)) : Prop where
  ext : Ext w w'
  known : ∀ e ∈ L, w.heap.size ≤ e.1 ∧ ∃ t, w'.heap[e.1]? = some (.cells e.2.toArray t (0, 0))

theorem Kq.after {w w' w'' : World} {L : List (Nat × List Value)} (h : Kq w w' L) (e : Ext w' w'') : Kq w w'' L :=
  ⟨h.ext.trans e, fun x hx => let ⟨h0, t, h1⟩ := h.known x hx; ⟨h0, t, e.heap h1⟩⟩
theorem Kq.drew {w w' : World} {L : List (Nat × List Value)} (h : Kq w w' L) : Kq w w'.drew L := h.after (Ext.refl _).drew
theorem Kq.drewN {w w' : World} {L : List (Nat × List Value)} (h : Kq w w' L) (n : Nat) : Kq w (w'.drewN n) L := h.after ((Ext.refl _).drewN n)
theorem Kq.sub {w w' : World} {L L' : List (Nat × List Value)} (h : Kq w w' L) (hs : ∀ e ∈ L', e ∈ L) : Kq w w' L' := ⟨h.ext, fun x hx => h.known x (hs x hx)⟩
theorem Kq.cell {w w' : World} {L : List (Nat × List Value)} (h : Kq w w' L) (b j : Nat) (c : List Value) (v : Value) (hi : (b, c) ∈ L) (hj : c[j]? = some v) : w'.cell? ⟨b, j, none⟩ = some v := by
  obtain ⟨_, t, h1⟩ := h.known _ hi
  simp only [World.cell?]; rw [h1]; simpa using hj
theorem Kq.free {w w' : World} {L : List (Nat × List Value)} (h : Kq w w' L) (b j : Nat) (c : List Value) (hi : (b, c) ∈ L) : w'.frozen? ⟨b, j, none⟩ = false := by
  obtain ⟨_, t, h1⟩ := h.known _ hi
  simp only [World.frozen?]; rw [h1]; simp
theorem Kq.lt {w w' : World} {L : List (Nat × List Value)} (h : Kq w w' L) (b : Nat) (c : List Value) (hi : (b, c) ∈ L) : b < w'.heap.size := by
  obtain ⟨_, t, h1⟩ := h.known _ hi
  exact heap_lt h1
/-- A store into a box. -/
theorem Kq.set {w w' : World} {b j : Nat} {c : List Value} {L : List (Nat × List Value)} (h : Kq w w' ((b, c) :: L)) (v : Value) (hL : ∀ e ∈ L, e.1 ≠ b) : Kq w (w'.setCell ⟨b, j, none⟩ v) ((b, c.set j v) :: L) := by
  obtain ⟨h0, t, h1⟩ := h.known _ (List.mem_cons_self ..)
  refine ⟨h.ext.set h0 _, fun x hx => ?_⟩
  rcases List.mem_cons.1 hx with rfl | hx
  · refine ⟨h0, t, ?_⟩
    simp only [World.setCell, Array.getElem?_modify, if_true]
    rw [h1]; simp
  · obtain ⟨h2, t2, h3⟩ := h.known x (List.mem_cons_of_mem _ hx)
    refine ⟨h2, t2, ?_⟩
    rw [Below.heap_setCell _ _ _ _ (hL x hx)]; exact h3
/-- A box of two cells is written; integers in memory stay. -/
theorem Kq.put {w w' : World} {b : Nat} {u v : Value} {L : List (Nat × List Value)} (h : Kq w w' ((b, [u, v]) :: L)) (hu : NoWord u) (hv : NoWord v) (hL : ∀ e ∈ L, e.1 ≠ b) (x y : Value) :
    Kq w ((w'.setCell ⟨b, 0, none⟩ x).setCell ⟨b, 1, none⟩ y) ((b, [x, y]) :: L) ∧
      ∀ k s a n c z, IntAt w' k s a n c z → IntAt ((w'.setCell ⟨b, 0, none⟩ x).setCell ⟨b, 1, none⟩ y) k s a n c z := by
  have h1 := h.set (j := 0) x hL
  have h2 := h1.set (j := 1) y hL
  refine ⟨h2, fun k s a n c z hz => ?_⟩
  exact (hz.set _ (h.cell b 0 [u, v] u (by simp) rfl) hu _).set _ (h1.cell b 1 [x, v] v (by simp) rfl) hv _
theorem Kq.start (w : World) : Kq w w [] := ⟨Ext.refl w, (fun _ h => by cases h)⟩
theorem Kq.alloc {w w' : World} {L : List (Nat × List Value)} (h : Kq w w' L) (c : List Value) (t : TypeId) : Kq w (w'.alloc (.cells c.toArray t)) ((w'.heap.size, c) :: L) := by
  have e : Ext w' (w'.alloc (.cells c.toArray t)) := (Ext.refl _).alloc _
  refine ⟨(h.after e).ext, fun x hx => ?_⟩
  rcases List.mem_cons.1 hx with rfl | hx
  · exact ⟨h.ext.size, t, by show (w'.heap.push _)[w'.heap.size]? = _; simp⟩
  · exact (h.after e).known x hx

/-- The prologue of a function of two integers that hands back two. -/
theorem kq22 (w : World) (s1 s2 : Bool) (a1 a2 : Option Addr) (n1 n2 c1 c2 : Nat) :
    ∃ W, W = (((w.alloc (.cells #[.bool s1, .slice a1 n1 c1] 27)).alloc (.cells #[.bool s2, .slice a2 n2 c2] 27)).alloc (.cells #[.bool false, .slice none 0 0] 27)).alloc (.cells #[.bool false, .slice none 0 0] 27) ∧
      Kq w W [(w.heap.size + 3, [.bool false, .slice none 0 0]), (w.heap.size + 2, [.bool false, .slice none 0 0]), (w.heap.size + 1, [.bool s2, .slice a2 n2 c2]), (w.heap.size, [.bool s1, .slice a1 n1 c1])] := by
  refine ⟨_, rfl, ?_⟩
  have := ((((Kq.start w).alloc [.bool s1, .slice a1 n1 c1] 27).alloc [.bool s2, .slice a2 n2 c2] 27).alloc [.bool false, .slice none 0 0] 27).alloc [.bool false, .slice none 0 0] 27
  simpa using this
end Go.Proofs.YtpflfagjkmeeiaaDoor
