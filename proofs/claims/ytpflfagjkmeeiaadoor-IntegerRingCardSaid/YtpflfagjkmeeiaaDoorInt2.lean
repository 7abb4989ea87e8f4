/-
  Integers of package integer: Neg, Abs, Bits, Add, Mul. Every integer of at most 2^28 words.
-/
import Derived.Test.YtpflfagjkmeeiaaDoorInt1
import Derived.Deep.RegionHeld3
namespace Go.Proofs.YtpflfagjkmeeiaaDoor
open Go Go.RowKit

/-- A store into a cell that holds no word leaves words alone. -/
theorem Wd.set {w : World} {ao : Option Addr} {n cap : Nat} {xs : List Nat} (h : Wd w ao n cap xs) (p : Addr) {u : Value} (hp : w.cell? p = some u) (hu : ∀ x, u ≠ .int .u32 x) (v : Value) : Wd (w.setCell p v) ao n cap xs := by
  refine ⟨h.len, h.capo, h.big, h.lt, h.at_.imp id fun ⟨b, off, h1, h2, h3⟩ => ⟨b, off, h1, by simpa [World.setCell] using h2, fun j hj => ?_⟩⟩
  have := h3 j hj
  rw [World.cell?_setCell_other]
  · exact this
  · intro he
    rw [he, this] at hp
    exact hu _ (Option.some.inj hp).symm
theorem NatAt.set {w : World} {k n cap m : Nat} {ao : Option Addr} (h : NatAt w k ao n cap m) (p : Addr) {u : Value} (hp : w.cell? p = some u) (hu : ∀ x, u ≠ .int .u32 x) (v : Value) : NatAt (w.setCell p v) k ao n cap m :=
  let ⟨xs, h1, h2⟩ := h; ⟨xs, h1.set p hp hu v, h2⟩
theorem IntAt.set {w : World} {k n cap : Nat} {s : Bool} {ao : Option Addr} {z : Int} (h : IntAt w k s ao n cap z) (p : Addr) {u : Value} (hp : w.cell? p = some u) (hu : ∀ x, u ≠ .int .u32 x) (v : Value) : IntAt (w.setCell p v) k s ao n cap z :=
  let ⟨m, h1, h2⟩ := h; ⟨m, h1.set p hp hu v, h2⟩

/-- Block b holds one integer. -/
def Blk (w : World) (b : Nat) (s : Bool) (ao : Option Addr) (n cap : Nat) : Prop := w.heap[b]? = some (.cells #[.bool s, .slice ao n cap] 27 (0, 0))
theorem Blk.lt {w : World} {b n cap : Nat} {s : Bool} {ao : Option Addr} (h : Blk w b s ao n cap) : b < w.heap.size := by
  rcases Nat.lt_or_ge b w.heap.size with h1 | h1
  · exact h1
  · unfold Blk at h; simp [Array.getElem?_eq_none h1] at h
theorem Blk.ext {w w' : World} {b n cap : Nat} {s : Bool} {ao : Option Addr} (h : Blk w b s ao n cap) (e : Ext w w') : Blk w' b s ao n cap := by
  have := Below.block e b h.lt
  unfold Blk at *
  rw [this]; exact h
theorem Blk.c0 {w : World} {b n cap : Nat} {s : Bool} {ao : Option Addr} (h : Blk w b s ao n cap) : w.cell? ⟨b, 0, none⟩ = some (.bool s) := by
  simp only [World.cell?]; rw [h]; simp
theorem Blk.c1 {w : World} {b n cap : Nat} {s : Bool} {ao : Option Addr} (h : Blk w b s ao n cap) : w.cell? ⟨b, 1, none⟩ = some (.slice ao n cap) := by
  simp only [World.cell?]; rw [h]; simp
theorem Blk.f {w : World} {b n cap : Nat} {s : Bool} {ao : Option Addr} (h : Blk w b s ao n cap) (i : Nat) : w.frozen? ⟨b, i, none⟩ = false := by
  simp only [World.frozen?]; rw [h]; simp
theorem Blk.new (w : World) (s : Bool) (ao : Option Addr) (n cap : Nat) : Blk (w.alloc (.cells #[.bool s, .slice ao n cap] 27)) w.heap.size s ao n cap := by
  show (w.heap.push _)[w.heap.size]? = _
  simp
/-- The block is written anew, both cells. -/
def setBlk (w : World) (b : Nat) (s : Bool) (ao : Option Addr) (n cap : Nat) : World := (w.setCell ⟨b, 0, none⟩ (.bool s)).setCell ⟨b, 1, none⟩ (.slice ao n cap)
theorem Blk.put {w : World} {b n cap n' cap' : Nat} {s s' : Bool} {ao ao' : Option Addr} (h : Blk w b s ao n cap) : Blk (setBlk w b s' ao' n' cap') b s' ao' n' cap' := by
  unfold Blk setBlk at *
  simp only [World.setCell, Array.getElem?_modify, if_true]
  rw [h]; simp
theorem IntAt.put {w : World} {k n cap b n1 cap1 n2 cap2 : Nat} {s s1 s2 : Bool} {ao a1 a2 : Option Addr} {z : Int} (h : IntAt w k s ao n cap z) (hb : Blk w b s1 a1 n1 cap1) : IntAt (setBlk w b s2 a2 n2 cap2) k s ao n cap z := by
  refine (h.set ⟨b, 0, none⟩ hb.c0 (fun x => by simp) _).set ⟨b, 1, none⟩ (u := .slice a1 n1 cap1) ?_ (fun x => by simp) _
  rw [World.cell?_setCell_other]
  · exact hb.c1
  · simp
theorem Ext.put {a w : World} (h : Ext a w) {b n cap : Nat} {s : Bool} {ao : Option Addr} (hb : a.heap.size ≤ b) : Ext a (setBlk w b s ao n cap) := (h.set hb _).set hb _

/-- Behind the prologue: one integer came in, one goes out. -/
theorem pro1 (w : World) (s : Bool) (ao : Option Addr) (n cap : Nat) : ∃ W, W = (w.alloc (.cells #[.bool s, .slice ao n cap] 27)).alloc (.cells #[.bool false, .slice none 0 0] 27) ∧ Ext w W ∧
    Blk W w.heap.size s ao n cap ∧ Blk W (w.heap.size + 1) false none 0 0 := by
  refine ⟨_, rfl, ((Ext.refl w).alloc _).alloc _, (Blk.new w s ao n cap).ext ((Ext.refl _).alloc _), ?_⟩
  have := Blk.new (w.alloc (.cells #[.bool s, .slice ao n cap] 27)) false none 0 0
  simpa using this
/-- Two came in, one goes out. -/
theorem pro2 (w : World) (s1 s2 : Bool) (a1 a2 : Option Addr) (n1 n2 c1 c2 : Nat) : ∃ W, W = ((w.alloc (.cells #[.bool s1, .slice a1 n1 c1] 27)).alloc (.cells #[.bool s2, .slice a2 n2 c2] 27)).alloc (.cells #[.bool false, .slice none 0 0] 27) ∧ Ext w W ∧
    Blk W w.heap.size s1 a1 n1 c1 ∧ Blk W (w.heap.size + 1) s2 a2 n2 c2 ∧ Blk W (w.heap.size + 2) false none 0 0 := by
  have h1 := Blk.new w s1 a1 n1 c1
  have h2 := Blk.new (w.alloc (.cells #[.bool s1, .slice a1 n1 c1] 27)) s2 a2 n2 c2
  have h3 := Blk.new ((w.alloc (.cells #[.bool s1, .slice a1 n1 c1] 27)).alloc (.cells #[.bool s2, .slice a2 n2 c2] 27)) false none 0 0
  refine ⟨_, rfl, (((Ext.refl w).alloc _).alloc _).alloc _, h1.ext (((Ext.refl _).alloc _).alloc _), ?_, ?_⟩
  · have := h2.ext ((Ext.refl _).alloc (.cells #[.bool false, .slice none 0 0] 27))
    simpa using this
  · simpa using h3

set_option maxHeartbeats 400000 in
theorem Abs_c (w : World) (s : Bool) (ao : Option Addr) (n cap k : Nat) (z : Int) (h : IntAt w k s ao n cap z) :
    Calls Tryd.prog 17 #[.agg #[.bool s, .slice ao n cap]] w (RInt w k z.natAbs) := by
  obtain ⟨m, ⟨xs, hw, hk, _, hm⟩, hs, hz⟩ := h
  have hz' : (z.natAbs : Int) = natVal xs := by rw [hz, hm]; cases s <;> simp
  have Hw := hid hw
  have Hz := hid hz'
  clear hw hz hz' hm
  obtain ⟨W, hW, e0, b0, b1⟩ := pro1 w s ao n cap
  go_enter Tryd.func17, Tryd.ntmps17
  go_wp2_with fail
  refine Calls.mono (of_c _ false _ _ _ xs z.natAbs (hW ▸ Hw.out.ext e0) (by rw [Hz.out]; simp)) ?_
  rw [← hW]
  clear hW
  rintro e w1 ⟨s1, a1, n1, c1, rfl, e1, h1⟩
  have b1 := b1.ext e1
  have q0 := b1.c0
  have q1 := b1.c1
  have r0 := b1.f 0
  have r1 := b1.f 1
  have B1 := hid b1
  clear b0 b1
  go_wp2_with fail
  refine bodyPost_ret (v := .agg #[.bool s1, .slice a1 n1 c1]) (by simp [results, Tryd.results17, go_sem, q0, q1]) rfl ?_
  exact ⟨_, _, _, _, rfl, (e0.trans e1).put (Nat.le_succ _), (h1.put B1.out).mono hk⟩
end Go.Proofs.YtpflfagjkmeeiaaDoor
