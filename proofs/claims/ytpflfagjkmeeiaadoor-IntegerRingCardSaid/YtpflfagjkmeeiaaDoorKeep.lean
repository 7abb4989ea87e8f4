/-
  What a function's own boxes (parameters and results that lie in memory) keep while it calls others. No condition.
-/
import Derived.Test.YtpflfagjkmeeiaaDoorInt2
import Derived.WalkSpells
namespace Go.Proofs.YtpflfagjkmeeiaaDoor
open Go Go.RowKit

/-- No word: a store over it, or of it, leaves words in memory alone. -/
def NoWord (v : Value) : Prop := ∀ x, v ≠ .int .u32 x
theorem NoWord.bool (b : Bool) : NoWord (.bool b) := fun x => by simp
theorem NoWord.slice (a : Option Addr) (n c : Nat) : NoWord (.slice a n c) := fun x => by simp

/-- Since w the boxes of L (from w's end on: place, cells) hold what they held, those of R (place, how many cells) are there. -/
structure Kp (w w' : World) (L : List (Nat × List Value)) (R : List (Nat × Nat)) : Prop where
  ext : Ext w w'
  known : ∀ e ∈ L, ∃ t, w'.heap[w.heap.size + e.1]? = some (.cells e.2.toArray t (0, 0))
  free : ∀ e ∈ R, ∃ (c : Array Value) (t : TypeId), c.size = e.2 ∧ (∀ (j : Nat) (v : Value), c[j]? = some v → NoWord v) ∧ w'.heap[w.heap.size + e.1]? = some (.cells c t (0, 0))

theorem heap_lt {w : World} {b : Nat} {o : Obj} (h : w.heap[b]? = some o) : b < w.heap.size := by
  rcases Nat.lt_or_ge b w.heap.size with h1 | h1
  · exact h1
  · simp [Array.getElem?_eq_none h1] at h
theorem Ext.heap {w w' : World} {b : Nat} {o : Obj} (e : Ext w w') (h : w.heap[b]? = some o) : w'.heap[b]? = some o := by
  rw [Below.block e b (heap_lt h)]; exact h
theorem Kp.after {w w' w'' : World} {L : List (Nat × List Value)} {R : List (Nat × Nat)} (h : Kp w w' L R) (e : Ext w' w'') : Kp w w'' L R :=
  ⟨h.ext.trans e, fun x hx => let ⟨t, h1⟩ := h.known x hx; ⟨t, e.heap h1⟩, fun x hx => let ⟨c, t, h1, h2, h3⟩ := h.free x hx; ⟨c, t, h1, h2, e.heap h3⟩⟩
theorem Kp.drew {w w' : World} {L : List (Nat × List Value)} {R : List (Nat × Nat)} (h : Kp w w' L R) : Kp w w'.drew L R := h.after (Ext.refl _).drew
theorem Kp.drewN {w w' : World} {L : List (Nat × List Value)} {R : List (Nat × Nat)} (h : Kp w w' L R) (n : Nat) : Kp w (w'.drewN n) L R := h.after ((Ext.refl _).drewN n)
theorem Kp.cell {w w' : World} {L : List (Nat × List Value)} {R : List (Nat × Nat)} (h : Kp w w' L R) (i j : Nat) (c : List Value) (v : Value) (hi : (i, c) ∈ L) (hj : c[j]? = some v) : w'.cell? ⟨w.heap.size + i, j, none⟩ = some v := by
  obtain ⟨t, h1⟩ := h.known _ hi
  simp only [World.cell?]; rw [h1]; simpa using hj
theorem Kp.res {w w' : World} {L : List (Nat × List Value)} {R : List (Nat × Nat)} (h : Kp w w' L R) (i n : Nat) (hi : (i, n) ∈ R) (j : Nat) (hj : j < n) :
    (∃ v, w'.cell? ⟨w.heap.size + i, j, none⟩ = some v ∧ NoWord v) ∧ w'.frozen? ⟨w.heap.size + i, j, none⟩ = false := by
  obtain ⟨c, t, h1, h2, h3⟩ := h.free _ hi
  have hj' : j < c.size := by omega
  refine ⟨⟨c[j], ?_, h2 j _ (by simp [hj'])⟩, ?_⟩
  · simp only [World.cell?]; rw [h3]; simp [hj']
  · simp only [World.frozen?]; rw [h3]; simp
theorem Kp.set {w w' : World} {L : List (Nat × List Value)} {R : List (Nat × Nat)} (h : Kp w w' L R) (i n j : Nat) (v : Value) (_hi : (i, n) ∈ R) (hv : NoWord v) (hL : ∀ e ∈ L, e.1 ≠ i) :
    Kp w (w'.setCell ⟨w.heap.size + i, j, none⟩ v) L R := by
  refine ⟨h.ext.set (Nat.le_add_right _ _) _, fun x hx => ?_, fun x hx => ?_⟩
  · obtain ⟨t, h1⟩ := h.known x hx
    refine ⟨t, ?_⟩
    rw [Below.heap_setCell _ _ _ _ (by have := hL x hx; simp; omega)]; exact h1
  · obtain ⟨c, t, h1, h2, h3⟩ := h.free x hx
    by_cases hxi : x.1 = i
    · refine ⟨c.setIfInBounds j v, t, by simpa using h1, fun k u hk => ?_, ?_⟩
      · rw [Array.getElem?_setIfInBounds] at hk
        split at hk
        · split at hk
          · cases hk; exact hv
          · cases hk
        · exact h2 k u hk
      · simp only [World.setCell, Array.getElem?_modify]
        rw [if_pos (by rw [hxi]), h3]; simp
    · refine ⟨c, t, h1, h2, ?_⟩
      rw [Below.heap_setCell _ _ _ _ (by simp; omega)]; exact h3
/-- An integer in memory stays while a result's box is written. -/
theorem Kp.put2 {w w' : World} {L : List (Nat × List Value)} {R : List (Nat × Nat)} (h : Kp w w' L R) (i : Nat) (hi : (i, 2) ∈ R) (s : Bool) (a : Option Addr) (n c : Nat) (hL : ∀ e ∈ L, e.1 ≠ i) :
    Kp w ((w'.setCell ⟨w.heap.size + i, 0, none⟩ (.bool s)).setCell ⟨w.heap.size + i, 1, none⟩ (.slice a n c)) L R ∧
      ∀ k s1 a1 n1 c1 z, IntAt w' k s1 a1 n1 c1 z → IntAt ((w'.setCell ⟨w.heap.size + i, 0, none⟩ (.bool s)).setCell ⟨w.heap.size + i, 1, none⟩ (.slice a n c)) k s1 a1 n1 c1 z := by
  have h1 := h.set i 2 0 (.bool s) hi (NoWord.bool s) hL
  refine ⟨h1.set i 2 1 _ hi (NoWord.slice a n c) hL, fun k s1 a1 n1 c1 z hz => ?_⟩
  obtain ⟨⟨v, hv, hw⟩, _⟩ := h.res i 2 hi 0 (by omega)
  obtain ⟨⟨v', hv', hw'⟩, _⟩ := h1.res i 2 hi 1 (by omega)
  exact (hz.set _ hv hw _).set _ hv' hw' _

theorem Kp.fin {w w' : World} {L : List (Nat × List Value)} {R : List (Nat × Nat)} (h : Kp w w' L R) (i : Nat) (hi : (i, 2) ∈ R) {s : Bool} {a : Option Addr} {n c k : Nat} {z : Int} (hL : ∀ e ∈ L, e.1 ≠ i) (hz : IntAt w' k s a n c z) :
    RInt w k z (.returned (.agg #[.bool s, .slice a n c])) ((w'.setCell ⟨w.heap.size + i, 0, none⟩ (.bool s)).setCell ⟨w.heap.size + i, 1, none⟩ (.slice a n c)) :=
  ⟨s, a, n, c, rfl, (h.put2 i hi s a n c hL).1.ext, (h.put2 i hi s a n c hL).2 _ _ _ _ _ _ hz⟩
theorem Kp.start (w : World) : Kp w w [] [] := ⟨Ext.refl w, (fun _ h => by cases h), (fun _ h => by cases h)⟩
theorem Kp.box {w w' : World} {L : List (Nat × List Value)} {R : List (Nat × Nat)} (h : Kp w w' L R) (i : Nat) (hi : w'.heap.size = w.heap.size + i) (c : List Value) (t : TypeId) : Kp w (w'.alloc (.cells c.toArray t)) ((i, c) :: L) R := by
  have e : Ext w' (w'.alloc (.cells c.toArray t)) := (Ext.refl _).alloc _
  refine ⟨(h.after e).ext, fun x hx => ?_, (h.after e).free⟩
  rcases List.mem_cons.1 hx with rfl | hx
  · refine ⟨t, ?_⟩
    rw [← hi]; show (w'.heap.push _)[w'.heap.size]? = _; simp
  · exact (h.after e).known x hx
theorem Kp.out {w w' : World} {L : List (Nat × List Value)} {R : List (Nat × Nat)} (h : Kp w w' L R) (i : Nat) (hi : w'.heap.size = w.heap.size + i) (c : List Value) (t : TypeId) (hc : ∀ v ∈ c, NoWord v) : Kp w (w'.alloc (.cells c.toArray t)) L ((i, c.length) :: R) := by
  have e : Ext w' (w'.alloc (.cells c.toArray t)) := (Ext.refl _).alloc _
  refine ⟨(h.after e).ext, (h.after e).known, fun x hx => ?_⟩
  rcases List.mem_cons.1 hx with rfl | hx
  · refine ⟨c.toArray, t, by simp, fun j v hj => hc v ?_, ?_⟩
    · exact List.mem_of_getElem? (by simpa using hj)
    · rw [← hi]; show (w'.heap.push _)[w'.heap.size]? = _; simp
  · exact (h.after e).free x hx

/-- The prologue of a function of two integers with an integer as its result. -/
theorem kp2 (w : World) (s1 s2 : Bool) (a1 a2 : Option Addr) (n1 n2 c1 c2 : Nat) :
    ∃ W, W = ((w.alloc (.cells #[.bool s1, .slice a1 n1 c1] 27)).alloc (.cells #[.bool s2, .slice a2 n2 c2] 27)).alloc (.cells #[.bool false, .slice none 0 0] 27) ∧
      Kp w W [(1, [.bool s2, .slice a2 n2 c2]), (0, [.bool s1, .slice a1 n1 c1])] [(2, 2)] := by
  refine ⟨_, rfl, ?_⟩
  exact (((Kp.start w).box 0 rfl [.bool s1, .slice a1 n1 c1] 27).box 1 (by simp) [.bool s2, .slice a2 n2 c2] 27).out 2 (by simp) [.bool false, .slice none 0 0] 27 (by
    intro v hv; simp at hv; rcases hv with rfl | rfl
    · exact NoWord.bool _
    · exact NoWord.slice _ _ _)
theorem kp1 (w : World) (s1 : Bool) (a1 : Option Addr) (n1 c1 : Nat) :
    ∃ W, W = (w.alloc (.cells #[.bool s1, .slice a1 n1 c1] 27)).alloc (.cells #[.bool false, .slice none 0 0] 27) ∧ Kp w W [(0, [.bool s1, .slice a1 n1 c1])] [(1, 2)] := by
  refine ⟨_, rfl, ?_⟩
  exact ((Kp.start w).box 0 rfl [.bool s1, .slice a1 n1 c1] 27).out 1 (by simp) [.bool false, .slice none 0 0] 27 (by
    intro v hv; simp at hv; rcases hv with rfl | rfl
    · exact NoWord.bool _
    · exact NoWord.slice _ _ _)
end Go.Proofs.YtpflfagjkmeeiaaDoor
