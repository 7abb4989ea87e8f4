/-
  Boxes of integers that are written one after another. No condition.
-/
import Derived.Test.YtpflfagjkmeeiaaDoorBzMath
namespace Go.Proofs.YtpflfagjkmeeiaaDoor
open Go Go.RowKit

/-- wpAny_take with the slot written out. -/
theorem wpAny_take' {P : Program} {md : Region.Mode} {ops : Array Oper} {Q : Exit → Act → World → Prop} (i : Nat) (d : Option Tmp) (v : Value) {oi : Oper} {fuel : Nat} {listed : Array Bool} {a : Act} {w : World} (hi : ops[i]? = some oi) (hd : oi.dst = d)
    (hs : Region.noSelect ops = true) (hf : Region.free md ops listed i = true) (hr : (Region.ready md ops listed).contains i = true)
    (hQ : ∀ c a w, Q (.panic c) (a.put oi.dst v) w → Q (.panic c) a w) (hy : Yields P ops oi v a)
    (h : wpAny P md ops Q fuel (listed.setIfInBounds i true) (a.put d v) w) : wpAny P md ops Q (fuel + 1) listed a w :=
  wpAny_take hi hs hf hr hQ hy (by rw [hd]; exact h)

/-- A box holds an integer. -/
def BI (w : World) (b k : Nat) (z : Int) : Prop := ∃ s a n c, Bx w b s a n c ∧ IntAt w k s a n c z
theorem BI.ext {w w' : World} {b k : Nat} {z : Int} (h : BI w b k z) (e : Ext w w') : BI w' b k z :=
  let ⟨s, a, n, c, h1, h2⟩ := h; ⟨s, a, n, c, h1.ext e, h2.ext e⟩
theorem BI.lt {w : World} {b k : Nat} {z : Int} (h : BI w b k z) : b < w.heap.size := let ⟨_, _, _, _, h1, _⟩ := h; h1.lt
/-- The box g has been written, nothing else that was there. -/
def Pt (g : Nat) (w w' : World) : Prop :=
  (∀ g2 s a n c, g2 ≠ g → Bx w g2 s a n c → Bx w' g2 s a n c) ∧ Gr w w' ∧ (∀ w0 : World, Ext w0 w → w0.heap.size ≤ g → Ext w0 w')
theorem Bx.pt {g g2 n c : Nat} {s : Bool} {a : Option Addr} {w w' : World} (h : Bx w g2 s a n c) (p : Pt g w w') (hg : g2 ≠ g) : Bx w' g2 s a n c := p.1 _ _ _ _ _ hg h
theorem BI.pt {g b k : Nat} {z : Int} {w w' : World} (h : BI w b k z) (p : Pt g w w') (hg : b ≠ g) : BI w' b k z :=
  let ⟨s, a, n, c, h1, h2⟩ := h; ⟨s, a, n, c, h1.pt p hg, h2.gr p.2.1⟩
theorem IntAt.pt {g k n c : Nat} {s : Bool} {a : Option Addr} {z : Int} {w w' : World} (h : IntAt w k s a n c z) (p : Pt g w w') : IntAt w' k s a n c z := h.gr p.2.1
theorem Ext.pt {w0 w w' : World} {g : Nat} (e : Ext w0 w) (p : Pt g w w') (hg : w0.heap.size ≤ g) : Ext w0 w' := p.2.2 _ e hg
theorem Bx.put' {w : World} {g n c : Nat} {s : Bool} {a : Option Addr} (b : Bx w g s a n c) (s' : Bool) (a' : Option Addr) (n' c' : Nat) :
    ∃ W, W = (w.setCell ⟨g, 0, none⟩ (.bool s')).setCell ⟨g, 1, none⟩ (.slice a' n' c') ∧ Bx W g s' a' n' c' ∧ Pt g w W := by
  obtain ⟨W, h1, h2, h3, h4, h5⟩ := b.put s' a' n' c'
  exact ⟨W, h1, h2, fun _ _ _ _ _ hg h => h3 hg h, h4, fun _ e hg => h5 e hg⟩
theorem BI.sz {w : World} {b k : Nat} {z : Int} (h : BI w b k z) : z.natAbs < 4294967296 ^ k := let ⟨_, _, _, _, _, h2⟩ := h; h2.size

/-- Hands back three integers. -/
def RI3 (w0 : World) (ka kb kc : Nat) (za zb zc : Int) (e : Ending) (w' : World) : Prop :=
  ∃ sa aa na ca sb ab nb cb sc ac nc cc, e = .returned (.tuple #[.agg #[.bool sa, .slice aa na ca], .agg #[.bool sb, .slice ab nb cb], .agg #[.bool sc, .slice ac nc cc]]) ∧ Ext w0 w' ∧
    IntAt w' ka sa aa na ca za ∧ IntAt w' kb sb ab nb cb zb ∧ IntAt w' kc sc ac nc cc zc
theorem IntAt.nil (w : World) (k : Nat) : IntAt w k false none 0 0 0 := IntAt.zero.mono (by omega)

/-- Two integers and no error, as one value. -/
def IsT (k k' : Nat) (q r : Int) : Value → World → Prop := fun x w => ∃ s a n c s' a' n' c', x = .tuple #[.agg #[.bool s, .slice a n c], .agg #[.bool s', .slice a' n' c'], .int .i64 0] ∧ IntAt w k s a n c q ∧ IntAt w k' s' a' n' c' r
theorem IsT.stb (k k' : Nat) (q r : Int) : Stb (IsT k k' q r) := fun _ _ _ e ⟨s, a, n, c, s', a', n', c', h1, h2, h3⟩ => ⟨s, a, n, c, s', a', n', c', h1, h2.ext e, h3.ext e⟩
/-- The boxes that Bezout begins with. -/
structure Bz0 (w : World) (s1 s2 : Bool) (a1 a2 : Option Addr) (n1 n2 c1 c2 : Nat) (W : World) : Prop where
  b2 : Bx W w.heap.size s1 a1 n1 c1
  b3 : Bx W (w.heap.size + 1) s2 a2 n2 c2
  b4 : Bx W (w.heap.size + 1 + 1) false none 0 0
  b5 : Bx W (w.heap.size + 1 + 1 + 1) false none 0 0
  b6 : Bx W (w.heap.size + 1 + 1 + 1 + 1) false none 0 0
  e : Ext w W
theorem Bz0.ext {w W W' : World} {s1 s2 : Bool} {a1 a2 : Option Addr} {n1 n2 c1 c2 : Nat} (h : Bz0 w s1 s2 a1 a2 n1 n2 c1 c2 W) (e : Ext W W') : Bz0 w s1 s2 a1 a2 n1 n2 c1 c2 W' :=
  ⟨h.b2.ext e, h.b3.ext e, h.b4.ext e, h.b5.ext e, h.b6.ext e, h.e.trans e⟩
theorem Bz0.pt {w W W' : World} {s1 s2 : Bool} {a1 a2 : Option Addr} {n1 n2 c1 c2 g : Nat} (h : Bz0 w s1 s2 a1 a2 n1 n2 c1 c2 W) (p : Pt g W W') (hg : w.heap.size + 4 < g) : Bz0 w s1 s2 a1 a2 n1 n2 c1 c2 W' :=
  ⟨h.b2.pt p (by omega), h.b3.pt p (by omega), h.b4.pt p (by omega), h.b5.pt p (by omega), h.b6.pt p (by omega), h.e.pt p (by omega)⟩
theorem Bz0.of {w W : World} {s1 s2 : Bool} {a1 a2 : Option Addr} {n1 n2 c1 c2 : Nat}
    (K0 : Kq w W [(w.heap.size + 4, [.bool false, .slice none 0 0]), (w.heap.size + 3, [.bool false, .slice none 0 0]), (w.heap.size + 2, [.bool false, .slice none 0 0]), (w.heap.size + 1, [.bool s2, .slice a2 n2 c2]), (w.heap.size, [.bool s1, .slice a1 n1 c1])]) : Bz0 w s1 s2 a1 a2 n1 n2 c1 c2 W :=
  ⟨K0.bx w.heap.size s1 a1 n1 c1 (by simp), K0.bx (w.heap.size + 1) s2 a2 n2 c2 (by simp), K0.bx (w.heap.size + 2) false none 0 0 (by simp), K0.bx (w.heap.size + 3) false none 0 0 (by simp), K0.bx (w.heap.size + 4) false none 0 0 (by simp), K0.ext⟩
end Go.Proofs.YtpflfagjkmeeiaaDoor
