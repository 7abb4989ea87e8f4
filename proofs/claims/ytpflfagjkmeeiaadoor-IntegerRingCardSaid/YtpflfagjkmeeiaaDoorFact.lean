/-
  Contracts with facts on values: what a call hands back, as a value that represents an integer. No condition beyond those of the contracts.
-/
import Derived.Test.YtpflfagjkmeeiaaDoorPow
import Derived.Test.YtpflfagjkmeeiaaDoorGcd
import Derived.Test.YtpflfagjkmeeiaaDoorDivMod0
namespace Go.Proofs.YtpflfagjkmeeiaaDoor
open Go Go.RowKit

/-- Hands back a value of which Φ holds; the heap has grown. -/
def Ret (w : World) (Φ : Value → World → Prop) (e : Ending) (w' : World) : Prop := ∃ x, e = .returned x ∧ Ext w w' ∧ Φ x w'
/-- A value of two, of three parts. -/
def IsT2 (Φ Ψ : Value → World → Prop) : Value → World → Prop := fun x w => ∃ a b, x = .tuple #[a, b] ∧ Φ a w ∧ Ψ b w
def IsT3 (Φ Ψ Χ : Value → World → Prop) : Value → World → Prop := fun x w => ∃ a b c, x = .tuple #[a, b, c] ∧ Φ a w ∧ Ψ b w ∧ Χ c w
theorem IsT2.stb {Φ Ψ : Value → World → Prop} (h : Stb Φ) (k : Stb Ψ) : Stb (IsT2 Φ Ψ) := fun _ _ _ e ⟨a, b, h1, h2, h3⟩ => ⟨a, b, h1, h _ _ _ e h2, k _ _ _ e h3⟩
theorem IsT3.stb {Φ Ψ Χ : Value → World → Prop} (h : Stb Φ) (k : Stb Ψ) (l : Stb Χ) : Stb (IsT3 Φ Ψ Χ) := fun _ _ _ e ⟨a, b, c, h1, h2, h3, h4⟩ => ⟨a, b, c, h1, h _ _ _ e h2, k _ _ _ e h3, l _ _ _ e h4⟩

/-- A fact that stays while boxes are written, too. -/
def GStb (Φ : Value → World → Prop) : Prop := ∀ x w w', Gr w w' → Φ x w → Φ x w'
theorem GStb.stb {Φ : Value → World → Prop} (h : GStb Φ) : Stb Φ := fun x _ _ e hx => h x _ _ e.gr hx
theorem IsI.gstb (k : Nat) (z : Int) : GStb (IsI k z) := fun _ _ _ e ⟨s, a, n, c, h1, h2⟩ => ⟨s, a, n, c, h1, h2.gr e⟩
theorem IsV.gstb (u : Value) : GStb (IsV u) := fun _ _ _ _ h => h
theorem IsI.ext {k : Nat} {z : Int} {x : Value} {w w' : World} (h : IsI k z x w) (e : Ext w w') : IsI k z x w' := (IsI.stb k z) _ _ _ e h
theorem IsI.nil (w : World) (k : Nat) : IsI k 0 (.agg #[.bool false, .slice none 0 0]) w := ⟨_, _, _, _, rfl, IntAt.nil w k⟩
theorem IsI.tight {k k' : Nat} {z : Int} {x : Value} {w : World} (h : IsI k z x w) (hz : z.natAbs < 4294967296 ^ k') : IsI k' z x w :=
  let ⟨s, a, n, c, h1, h2⟩ := h; ⟨s, a, n, c, h1, h2.tight hz⟩
theorem IsI.mono {k k' : Nat} {z : Int} {x : Value} {w : World} (h : IsI k z x w) (hk : k ≤ k') : IsI k' z x w :=
  let ⟨s, a, n, c, h1, h2⟩ := h; ⟨s, a, n, c, h1, h2.mono hk⟩
theorem IsI.size {k : Nat} {z : Int} {x : Value} {w : World} (h : IsI k z x w) : z.natAbs < 4294967296 ^ k := let ⟨_, _, _, _, _, h2⟩ := h; h2.size

/-- A description of an integer: a sign and words. -/
def IsR (s : Bool) (xs : List Nat) : Value → World → Prop := fun x w => ∃ a n c, x = .agg #[.bool s, .slice a n c] ∧ Wd w a n c xs
theorem IsR.gstb (s : Bool) (xs : List Nat) : GStb (IsR s xs) := fun _ _ _ e ⟨a, n, c, h1, h2⟩ => ⟨a, n, c, h1, h2.gr e⟩
theorem IsR.stb (s : Bool) (xs : List Nat) : Stb (IsR s xs) := (IsR.gstb s xs).stb
theorem IsR.ext {s : Bool} {xs : List Nat} {x : Value} {w w' : World} (h : IsR s xs x w) (e : Ext w w') : IsR s xs x w' := (IsR.stb s xs) _ _ _ e h

/-- The boxes of a call, each with what is known of it; w0 is where the call began. -/
structure St (w0 w : World) (B : List (Nat × (Value → World → Prop))) : Prop where
  ext : Ext w0 w
  box : ∀ p ∈ B, w0.heap.size ≤ p.1 ∧ ∃ s a n c, Bx w p.1 s a n c ∧ p.2 (.agg #[.bool s, .slice a n c]) w
  stb : ∀ p ∈ B, GStb p.2
  apart : B.Pairwise (fun p q => p.1 ≠ q.1)
theorem St.start (w : World) : St w w [] := ⟨Ext.refl w, (fun _ h => by cases h), (fun _ h => by cases h), List.Pairwise.nil⟩
theorem St.mono {w0 w w' : World} {B : List (Nat × (Value → World → Prop))} (h : St w0 w B) (e : Ext w w') : St w0 w' B :=
  ⟨h.ext.trans e, fun p hp => let ⟨h1, s, a, n, c, h2, h3⟩ := h.box p hp; ⟨h1, s, a, n, c, h2.ext e, h.stb p hp _ _ _ e.gr h3⟩, h.stb, h.apart⟩
theorem St.get {w0 w : World} {B : List (Nat × (Value → World → Prop))} (h : St w0 w B) (i : Nat) (p : Nat × (Value → World → Prop)) (hp : B[i]? = some p) :
    ∃ s a n c, Bx w p.1 s a n c ∧ p.2 (.agg #[.bool s, .slice a n c]) w := (h.box p (List.mem_of_getElem? hp)).2
theorem St.lt {w0 w : World} {B : List (Nat × (Value → World → Prop))} (h : St w0 w B) : ∀ p ∈ B, p.1 < w.heap.size := fun p hp =>
  let ⟨_, _, _, _, _, h2, _⟩ := h.box p hp; h2.lt
theorem St.lt' {w0 w : World} {B : List (Nat × (Value → World → Prop))} (h : St w0 w B) (i : Nat) (p : Nat × (Value → World → Prop)) (hp : B[i]? = some p) : p.1 < w.heap.size := h.lt p (List.mem_of_getElem? hp)
/-- One box more. -/
theorem St.add {w0 w : World} {B : List (Nat × (Value → World → Prop))} (h : St w0 w B) {g : Nat} {s : Bool} {a : Option Addr} {n c : Nat} {Φ : Value → World → Prop} (hb : Bx w g s a n c) (hg : w0.heap.size ≤ g) (hn : ∀ p ∈ B, p.1 ≠ g)
    (hs : GStb Φ) (hΦ : Φ (.agg #[.bool s, .slice a n c]) w) : St w0 w ((g, Φ) :: B) := by
  refine ⟨h.ext, fun p hp => ?_, fun p hp => ?_, List.Pairwise.cons (fun q hq he => hn q hq he.symm) h.apart⟩
  · rcases List.mem_cons.1 hp with rfl | hp
    · exact ⟨hg, s, a, n, c, hb, hΦ⟩
    · exact h.box p hp
  · rcases List.mem_cons.1 hp with rfl | hp
    · exact hs
    · exact h.stb p hp
/-- A box that was made since W, while the boxes at hand are elder. -/
theorem St.addNew {w0 W w : World} {B : List (Nat × (Value → World → Prop))} (h : St w0 w B) (hl : ∀ p ∈ B, p.1 < W.heap.size) (hW : w0.heap.size ≤ W.heap.size) {g : Nat} (hg : W.heap.size ≤ g) (hb : Bx w g false none 0 0) : St w0 w ((g, IsI 0 0) :: B) :=
  h.add hb (Nat.le_trans hW hg) (fun p hp he => by have := hl p hp; omega) (IsI.gstb 0 0) (IsI.nil w 0)
theorem St.new {w0 w : World} {B : List (Nat × (Value → World → Prop))} (h : St w0 w B) (s : Bool) (a : Option Addr) (n c : Nat) (t : TypeId) (Φ : Value → World → Prop) (hs : GStb Φ) (hΦ : Φ (.agg #[.bool s, .slice a n c]) w) :
    St w0 (w.alloc (.cells #[.bool s, .slice a n c] t)) ((w.heap.size, Φ) :: B) := by
  have e : Ext w (w.alloc (.cells #[.bool s, .slice a n c] t)) := (Ext.refl w).alloc _
  exact (h.mono e).add (s := s) (a := a) (n := n) (c := c) ⟨by simp, by simp, by simp, by simp⟩ h.ext.size (fun p hp he => by have := h.lt p hp; omega) hs (hs _ _ _ e.gr hΦ)
/-- Box i is written. -/
theorem St.put {w0 w : World} {B : List (Nat × (Value → World → Prop))} (h : St w0 w B) (i : Nat) (g : Nat) (Φ Ψ : Value → World → Prop) (hp : B[i]? = some (g, Φ)) (s : Bool) (a : Option Addr) (n c : Nat) (hs : GStb Ψ) (hΨ : Ψ (.agg #[.bool s, .slice a n c]) w) :
    ∃ W, W = (w.setCell ⟨g, 0, none⟩ (.bool s)).setCell ⟨g, 1, none⟩ (.slice a n c) ∧ St w0 W (B.set i (g, Ψ)) ∧ Gr w W ∧ (∀ g2 s2 a2 n2 c2, g2 ≠ g → Bx w g2 s2 a2 n2 c2 → Bx W g2 s2 a2 n2 c2) := by
  obtain ⟨s', a', n', c', hb, _⟩ := (h.box _ (List.mem_of_getElem? hp)).2
  have hg := (h.box _ (List.mem_of_getElem? hp)).1
  obtain ⟨W, h1, h2, h3⟩ := hb.put' s a n c
  have hi : i < B.length := (List.getElem?_eq_some_iff.1 hp).1
  have hBi : B[i] = (g, Φ) := (List.getElem?_eq_some_iff.1 hp).2
  refine ⟨W, h1, ⟨h.ext.pt h3 hg, fun p hpm => ?_, fun p hpm => ?_, ?_⟩, h3.2.1, fun _ _ _ _ _ hg2 hb2 => hb2.pt h3 hg2⟩
  · rcases List.mem_or_eq_of_mem_set hpm with hpm' | rfl
    · by_cases hgp : p.1 = g
      · obtain ⟨j, hj, hpj⟩ := List.mem_iff_getElem.1 hpm
        by_cases hij : i = j
        · subst hij
          rw [List.getElem_set_self] at hpj
          subst hpj
          exact ⟨hg, s, a, n, c, h2, hs _ _ _ h3.2.1 hΨ⟩
        · rw [List.getElem_set_ne hij] at hpj
          exfalso
          have hj' : j < B.length := by simpa using hj
          rcases Nat.lt_or_gt_of_ne hij with hlt | hlt
          · have := List.pairwise_iff_getElem.1 h.apart i j hi hj' hlt
            rw [hBi, hpj] at this; exact this hgp.symm
          · have := List.pairwise_iff_getElem.1 h.apart j i hj' hi hlt
            rw [hBi, hpj] at this; exact this hgp
      · obtain ⟨h4, s4, a4, n4, c4, h5, h6⟩ := h.box p hpm'
        exact ⟨h4, s4, a4, n4, c4, h5.pt h3 hgp, h.stb p hpm' _ _ _ h3.2.1 h6⟩
    · exact ⟨hg, s, a, n, c, h2, hs _ _ _ h3.2.1 hΨ⟩
  · rcases List.mem_or_eq_of_mem_set hpm with hpm' | rfl
    · exact h.stb p hpm'
    · exact hs
  · rw [List.pairwise_iff_getElem]
    intro j k hj hk hjk
    have hj' : j < B.length := by simpa using hj
    have hk' : k < B.length := by simpa using hk
    have key := List.pairwise_iff_getElem.1 h.apart j k hj' hk' hjk
    rw [List.getElem_set, List.getElem_set]
    split
    · rename_i h5; subst h5
      rw [hBi] at key
      split
      · omega
      · exact key
    · split
      · rename_i h5; subst h5; rw [hBi] at key; exact key
      · exact key

/-! ### The contracts in this form -/
theorem RInt.ret {w : World} {k : Nat} {z : Int} {e : Ending} {w' : World} (h : RInt w k z e w') : Ret w (IsI k z) e w' :=
  let ⟨s, a, n, c, h1, h2, h3⟩ := h; ⟨_, h1, h2, s, a, n, c, rfl, h3⟩
theorem RVal.ret {w : World} {v : Value} {e : Ending} {w' : World} (h : RVal w v e w') : Ret w (IsV v) e w' := ⟨_, h.1, h.2, rfl⟩
theorem RSame.ret {w : World} {v : Value} {e : Ending} {w' : World} (h : RSame w v e w') : Ret w (IsV v) e w' := ⟨_, h.1, h.2 ▸ Ext.refl w, rfl⟩
theorem Ret.mono {w : World} {Φ Ψ : Value → World → Prop} {e : Ending} {w' : World} (h : Ret w Φ e w') (hi : ∀ x w, Φ x w → Ψ x w) : Ret w Ψ e w' :=
  let ⟨x, h1, h2, h3⟩ := h; ⟨x, h1, h2, hi _ _ h3⟩

theorem Add_f {k1 k2 : Nat} {z1 z2 : Int} {x y : Value} {w : World} (hx : IsI k1 z1 x w) (hy : IsI k2 z2 y w) (l1 : k1 ≤ 268435456) (l2 : k2 ≤ 268435456) : Calls Tryd.prog 12 #[x, y] w (Ret w (IsI (max k1 k2 + 1) (z1 + z2))) := by
  obtain ⟨s, a, n, c, rfl, h1⟩ := hx; obtain ⟨s', a', n', c', rfl, h2⟩ := hy
  exact Calls.mono (Add_c w s s' a a' n n' c c' k1 k2 z1 z2 h1 h2 l1 l2) fun _ _ h => h.ret
theorem Sub_f {k1 k2 : Nat} {z1 z2 : Int} {x y : Value} {w : World} (hx : IsI k1 z1 x w) (hy : IsI k2 z2 y w) (l1 : k1 ≤ 268435456) (l2 : k2 ≤ 268435456) : Calls Tryd.prog 22 #[x, y] w (Ret w (IsI (max k1 k2 + 1) (z1 - z2))) := by
  obtain ⟨s, a, n, c, rfl, h1⟩ := hx; obtain ⟨s', a', n', c', rfl, h2⟩ := hy
  exact Calls.mono (Sub_c w s s' a a' n n' c c' k1 k2 z1 z2 h1 h2 l1 l2) fun _ _ h => h.ret
theorem Mul_f {k1 k2 : Nat} {z1 z2 : Int} {x y : Value} {w : World} (hx : IsI k1 z1 x w) (hy : IsI k2 z2 y w) (l1 : k1 ≤ 268435456) (l2 : k2 ≤ 268435456) : Calls Tryd.prog 13 #[x, y] w (Ret w (IsI (k1 + k2) (z1 * z2))) := by
  obtain ⟨s, a, n, c, rfl, h1⟩ := hx; obtain ⟨s', a', n', c', rfl, h2⟩ := hy
  exact Calls.mono (Mul_c w s s' a a' n n' c c' k1 k2 z1 z2 h1 h2 l1 l2) fun _ _ h => h.ret
theorem Cmp_f {k1 k2 : Nat} {z1 z2 : Int} {x y : Value} {w : World} (hx : IsI k1 z1 x w) (hy : IsI k2 z2 y w) (l1 : k1 ≤ 268435456) (l2 : k2 ≤ 268435456) : Calls Tryd.prog 16 #[x, y] w (Ret w (IsV (.int .i64 (cmpI z1 z2)))) := by
  obtain ⟨s, a, n, c, rfl, h1⟩ := hx; obtain ⟨s', a', n', c', rfl, h2⟩ := hy
  exact Calls.mono (Cmp_c w s s' a a' n n' c c' k1 k2 z1 z2 h1 h2 l1 l2) fun _ _ h => h.ret
theorem Gcd_f {k1 k2 : Nat} {z1 z2 : Int} {x y : Value} {w : World} (hx : IsI k1 z1 x w) (hy : IsI k2 z2 y w) (l1 : k1 ≤ 134217728) (l2 : k2 ≤ 134217728) : Calls Tryd.prog 19 #[x, y] w (Ret w (IsI (max k1 k2) (Int.gcd z1 z2 : Nat))) := by
  obtain ⟨s, a, n, c, rfl, h1⟩ := hx; obtain ⟨s', a', n', c', rfl, h2⟩ := hy
  exact Calls.mono (Gcd_c w s s' a a' n n' c c' k1 k2 z1 z2 h1 h2 l1 l2) fun _ _ h => h.ret
theorem mod_f {k1 k2 : Nat} {z1 z2 : Int} {x y : Value} {w : World} (hx : IsI k1 z1 x w) (hy : IsI k2 z2 y w) (l1 : k1 ≤ 134217728) (l2 : k2 ≤ 134217728) (hz : z2 ≠ 0) : Calls Tryd.prog 45 #[x, y] w (Ret w (IsI k2 (z1 % z2))) := by
  obtain ⟨s, a, n, c, rfl, h1⟩ := hx; obtain ⟨s', a', n', c', rfl, h2⟩ := hy
  exact Calls.mono (mod_c w s s' a a' n n' c c' k1 k2 z1 z2 h1 h2 l1 l2 hz) fun _ _ h => h.ret
theorem DivMod_f {k1 k2 : Nat} {z1 z2 : Int} {x y : Value} {w : World} (hx : IsI k1 z1 x w) (hy : IsI k2 z2 y w) (l1 : k1 ≤ 134217728) (l2 : k2 ≤ 134217728) (hz : z2 ≠ 0) : Calls Tryd.prog 11 #[x, y] w (Ret w (IsT3 (IsI k1 (z1 / z2)) (IsI k2 (z1 % z2)) (IsV (.int .i64 0)))) := by
  obtain ⟨s, a, n, c, rfl, h1⟩ := hx; obtain ⟨s', a', n', c', rfl, h2⟩ := hy
  refine Calls.mono (DivMod_c w s s' a a' n n' c c' k1 k2 z1 z2 h1 h2 l1 l2 hz) fun e w' ⟨s1, a1, n1, c1, s2, a2, n2, c2, h3, h4, h5, h6⟩ => ?_
  exact ⟨_, h3, h4, _, _, _, rfl, ⟨_, _, _, _, rfl, h5⟩, ⟨_, _, _, _, rfl, h6⟩, rfl⟩
theorem DivMod0_f {k1 k2 : Nat} {z1 : Int} {x y : Value} {w : World} (hx : IsI k1 z1 x w) (hy : IsI k2 0 y w) : Calls Tryd.prog 11 #[x, y] w (Ret w (IsT3 (IsI 0 0) (IsI 0 0) (IsV (.int .i64 4)))) := by
  obtain ⟨s, a, n, c, rfl, h1⟩ := hx; obtain ⟨s', a', n', c', rfl, h2⟩ := hy
  obtain rfl : n' = 0 := h2.zero_iff.1 rfl
  exact Calls.mono (DivMod_0 w s s' a a' n c c') fun e w' ⟨h3, h4⟩ => ⟨_, h3, h4, _, _, _, rfl, IsI.nil _ _, IsI.nil _ _, rfl⟩
theorem Bezout_f {k1 k2 : Nat} {z1 z2 : Int} {x y : Value} {w : World} (hx : IsI k1 z1 x w) (hy : IsI k2 z2 y w) (l1 : k1 ≤ 33554432) (l2 : k2 ≤ 33554432) (hz : z2 ≠ 0) : Calls Tryd.prog 18 #[x, y] w (fun e w' => ∃ u v : Int, Ret w (IsT3 (IsI k2 (Int.gcd z1 z2 : Nat)) (IsI k2 u) (IsI (k2 + k1 + 1) v)) e w' ∧
    (Int.gcd z1 z2 : Int) = u * z1 + v * z2 ∧ 0 ≤ u ∧ u < (z2 / (Int.gcd z1 z2 : Int)).natAbs) := by
  obtain ⟨s, a, n, c, rfl, h1⟩ := hx; obtain ⟨s', a', n', c', rfl, h2⟩ := hy
  refine Calls.mono (Bezout_c w s s' a a' n n' c c' k1 k2 z1 z2 h1 h2 l1 l2 hz) fun e w' ⟨u, v, h, hm⟩ => ⟨u, v, ?_, hm⟩
  obtain ⟨sa, aa, na, ca, sb, ab, nb, cb, sc, ac, nc, cc, h3, h4, h5, h6, h7⟩ := h
  exact ⟨_, h3, h4, _, _, _, rfl, ⟨_, _, _, _, rfl, h5⟩, ⟨_, _, _, _, rfl, h6⟩, ⟨_, _, _, _, rfl, h7⟩⟩
theorem Bezout0_f {k1 k2 : Nat} {z1 : Int} {x y : Value} {w : World} (hx : IsI k1 z1 x w) (hy : IsI k2 0 y w) : Calls Tryd.prog 18 #[x, y] w (Ret w (IsT3 (IsI k1 z1.natAbs) (IsI 2 z1.sign) (IsI 0 0))) := by
  obtain ⟨s, a, n, c, rfl, h1⟩ := hx; obtain ⟨s', a', n', c', rfl, h2⟩ := hy
  obtain rfl : n' = 0 := h2.zero_iff.1 rfl
  refine Calls.mono (Bezout_0 w s s' a a' n c c' k1 z1 h1) fun e w' h => ?_
  obtain ⟨sa, aa, na, ca, sb, ab, nb, cb, sc, ac, nc, cc, h3, h4, h5, h6, h7⟩ := h
  exact ⟨_, h3, h4, _, _, _, rfl, ⟨_, _, _, _, rfl, h5⟩, ⟨_, _, _, _, rfl, h6⟩, ⟨_, _, _, _, rfl, h7⟩⟩
theorem Neg_f {k1 : Nat} {z1 : Int} {x : Value} {w : World} (hx : IsI k1 z1 x w) : Calls Tryd.prog 29 #[x] w (Ret w (IsI k1 (-z1))) := by
  obtain ⟨s, a, n, c, rfl, h1⟩ := hx
  exact Calls.mono (Neg_c w s a n c k1 z1 h1) fun _ _ h => h.ret
theorem Abs_f {k1 : Nat} {z1 : Int} {x : Value} {w : World} (hx : IsI k1 z1 x w) : Calls Tryd.prog 17 #[x] w (Ret w (IsI k1 z1.natAbs)) := by
  obtain ⟨s, a, n, c, rfl, h1⟩ := hx
  exact Calls.mono (Abs_c w s a n c k1 z1 h1) fun _ _ h => h.ret
theorem Sign_f {k1 : Nat} {z1 : Int} {x : Value} {w : World} (hx : IsI k1 z1 x w) : Calls Tryd.prog 15 #[x] w (Ret w (IsV (.int .i64 z1.sign))) := by
  obtain ⟨s, a, n, c, rfl, h1⟩ := hx
  exact Calls.mono (Sign_c w s a n c k1 z1 h1) fun _ _ h => h.ret
theorem Bits_f {k1 : Nat} {z1 : Int} {x : Value} {w : World} (hx : IsI k1 z1 x w) (l1 : k1 ≤ 268435456) : Calls Tryd.prog 46 #[x] w (Ret w (IsV (.int .i64 (bitLen z1.natAbs : Nat)))) := by
  obtain ⟨s, a, n, c, rfl, h1⟩ := hx
  exact Calls.mono (Bits_c w s a n c k1 z1 h1 l1) fun _ _ h => h.ret
theorem Of_f (w : World) (n : Int) (h0 : -9223372036854775808 ≤ n) (h1 : n ≤ 9223372036854775807) : Calls Tryd.prog 23 #[.int .i64 n] w (Ret w (IsI 2 n)) :=
  Calls.mono (Of_c w n h0 h1) fun _ _ h => h.ret
theorem power_f {k1 : Nat} {z1 : Int} {x : Value} {w : World} (hx : IsI k1 z1 x w) (n : Nat) (hn : k1 * n ≤ 134217728) (hn2 : n < 9223372036854775808) : Calls Tryd.prog 47 #[x, .int .i64 n] w (Ret w (IsI (k1 * n + 1) (z1 ^ n))) := by
  obtain ⟨s, a, n', c, rfl, h1⟩ := hx
  exact Calls.mono (power_c w s a n' c k1 z1 h1 n hn hn2) fun _ _ h => h.ret
end Go.Proofs.YtpflfagjkmeeiaaDoor
