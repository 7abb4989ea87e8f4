/-
  Words persist: what a walk needs where boxes are made and written in whatever order. No condition.
-/
import Derived.Test.YtpflfagjkmeeiaaDoorKeep2
namespace Go.Proofs.YtpflfagjkmeeiaaDoor
open Go Go.RowKit

/-- The heap has grown and every word is where it was. -/
def Gr (w w' : World) : Prop := w.heap.size ≤ w'.heap.size ∧ ∀ p x, w.cell? p = some (.int .u32 x) → w'.cell? p = some (.int .u32 x)
theorem Gr.refl (w : World) : Gr w w := ⟨Nat.le_refl _, fun _ _ h => h⟩
theorem Gr.trans {a b c : World} (h : Gr a b) (k : Gr b c) : Gr a c := ⟨Nat.le_trans h.1 k.1, fun p x hp => k.2 p x (h.2 p x hp)⟩
theorem Ext.gr {a b : World} (h : Ext a b) : Gr a b := ⟨h.size, fun _ _ hp => h.cell hp⟩
theorem Gr.ext {a b c : World} (h : Gr a b) (k : Ext b c) : Gr a c := h.trans k.gr
theorem Gr.alloc {a b : World} (h : Gr a b) (o : Obj) : Gr a (b.alloc o) := h.ext ((Ext.refl b).alloc o)
theorem Gr.drew {a b : World} (h : Gr a b) : Gr a b.drew := h.ext (Ext.refl b).drew
theorem Gr.set {a b : World} (h : Gr a b) {p : Addr} {u : Value} (hp : b.cell? p = some u) (hu : NoWord u) (v : Value) : Gr a (b.setCell p v) := by
  refine h.trans ⟨by simp [World.setCell], fun q x hq => ?_⟩
  rw [World.cell?_setCell_other]
  · exact hq
  · intro he
    rw [he, hq] at hp
    exact hu _ (Option.some.inj hp).symm
theorem Wd.gr {w w' : World} {ao : Option Addr} {n cap : Nat} {xs : List Nat} (h : Wd w ao n cap xs) (e : Gr w w') : Wd w' ao n cap xs :=
  ⟨h.len, h.capo, h.big, h.lt, h.at_.imp id fun ⟨b, off, h1, h2, h3⟩ => ⟨b, off, h1, Nat.lt_of_lt_of_le h2 e.1, fun j hj => e.2 _ _ (h3 j hj)⟩⟩
theorem NatAt.gr {w w' : World} {k n cap m : Nat} {ao : Option Addr} (h : NatAt w k ao n cap m) (e : Gr w w') : NatAt w' k ao n cap m :=
  let ⟨xs, h1, h2⟩ := h; ⟨xs, h1.gr e, h2⟩
theorem IntAt.gr {w w' : World} {k n cap : Nat} {s : Bool} {ao : Option Addr} {z : Int} (h : IntAt w k s ao n cap z) (e : Gr w w') : IntAt w' k s ao n cap z :=
  let ⟨m, h1, h2⟩ := h; ⟨m, h1.gr e, h2⟩

/-- A box of an integer: two cells, not frozen. -/
structure Bx (w : World) (g : Nat) (s : Bool) (a : Option Addr) (n c : Nat) : Prop where
  c0 : w.cell? ⟨g, 0, none⟩ = some (.bool s)
  c1 : w.cell? ⟨g, 1, none⟩ = some (.slice a n c)
  f0 : w.frozen? ⟨g, 0, none⟩ = false
  f1 : w.frozen? ⟨g, 1, none⟩ = false
theorem Bx.lt {w : World} {g n c : Nat} {s : Bool} {a : Option Addr} (h : Bx w g s a n c) : g < w.heap.size := World.block_lt_of_cell? w ⟨g, 0, none⟩ h.c0
theorem Bx.ext {w w' : World} {g n c : Nat} {s : Bool} {a : Option Addr} (h : Bx w g s a n c) (e : Ext w w') : Bx w' g s a n c :=
  ⟨e.cell h.c0, e.cell h.c1, (e.frozen h.lt).trans h.f0, (e.frozen h.lt).trans h.f1⟩
theorem Bx.new (w : World) (s : Bool) (a : Option Addr) (n c : Nat) : Bx (w.alloc (.cells #[.bool s, .slice a n c] 27)) w.heap.size s a n c := ⟨by simp, by simp, by simp, by simp⟩
/-- What lies behind a call that began with a new box. -/
theorem Ext.new1 {w w' : World} {s : Bool} {a : Option Addr} {n c : Nat} (e : Ext (w.alloc (.cells #[.bool s, .slice a n c] 27)) w') : Bx w' w.heap.size s a n c := (Bx.new w s a n c).ext e
theorem Ext.peel {w w' : World} {o : Obj} (e : Ext (w.alloc o) w') : Ext w w' := ((Ext.refl w).alloc o).trans e
theorem Ext.peeld {w w' : World} (e : Ext w.drew w') : Ext w w' := (Ext.refl w).drew.trans e
end Go.Proofs.YtpflfagjkmeeiaaDoor
