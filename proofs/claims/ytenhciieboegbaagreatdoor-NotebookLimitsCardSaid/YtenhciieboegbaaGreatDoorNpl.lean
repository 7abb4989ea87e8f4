/-
  Expressions, scopes and cells in memory.
  Package notebook: plain.
-/
import Derived.Test.YtenhciieboegbaaGreatDoorNbA
import Derived.Test.YtenhciieboegbaaGreatDoorNb
import Derived.Test.YtenhciieboegbaaGreatDoorText
import Derived.Test.YtenhciieboegbaaGreatDoorNix
namespace Go.Proofs.YtenhciieboegbaaGreatDoor
open Go Go.RowKit
/-! ### Expressions -/
/-- Bounds: a name's length, an operation's number. -/
def NdBd (nm : List UInt8) (op : Int) : Prop := nm.length ≤ 4611686018427387904 ∧ -9223372036854775808 ≤ op ∧ op ≤ 9223372036854775807
mutual
/-- The eight cells of an expression; the rows of its parts lie in blocks from B on. -/
def NdC (B : Nat) (w : World) : Nd → List Value → Prop
  | .mk op nm n v lo hi ps, us => NdBd nm op ∧ ∃ (s : Bool) (a : Option Addr) (m c : Nat) (ao : Option Addr) (cp : Nat), us = [.int .i64 op, encS nm, .int .i64 n, .bool s, .slice a m c, .int .i64 lo, .int .i64 hi, .slice ao ps.length cp] ∧
      IsI 136 v (.agg #[.bool s, .slice a m c]) w ∧ ps.length ≤ cp ∧ cp ≤ 9223372036854775807 ∧ (ps ≠ [] → ∃ g o, ao = some ⟨g, o, none⟩ ∧ B ≤ g ∧ NdR B w ps g o)
/-- A row of expressions. -/
def NdR (B : Nat) (w : World) : List Nd → Nat → Nat → Prop
  | [], _, _ => True
  | x :: t, g, o => (∃ us : List Value, us.length = 8 ∧ (∀ j u, us[j]? = some u → World.cell? w ⟨g, o + j, none⟩ = some u) ∧ NdC B w x us) ∧ NdR B w t g (o + 8)
end
mutual
theorem NdC.kept {B : Nat} {w w' : World} (hc : ∀ (p : Addr) (v : Value), B ≤ p.block → World.cell? w p = some v → World.cell? w' p = some v) (hg : Gr w w') : ∀ (x : Nd) (us : List Value), NdC B w x us → NdC B w' x us
  | .mk op nm n v lo hi ps, us, h => by
    rw [NdC] at h ⊢
    obtain ⟨h0, s, a, m, c, ao, cp, h1, h2, h3, h4, h5⟩ := h
    refine ⟨h0, s, a, m, c, ao, cp, h1, IsI.gstb _ _ _ _ _ hg h2, h3, h4, fun hne => ?_⟩
    obtain ⟨g, o, q1, q2, q3⟩ := h5 hne
    exact ⟨g, o, q1, q2, NdR.kept hc hg ps g o q2 q3⟩
theorem NdR.kept {B : Nat} {w w' : World} (hc : ∀ (p : Addr) (v : Value), B ≤ p.block → World.cell? w p = some v → World.cell? w' p = some v) (hg : Gr w w') : ∀ (l : List Nd) (g o : Nat), B ≤ g → NdR B w l g o → NdR B w' l g o
  | [], _, _, _, _ => by rw [NdR]; trivial
  | x :: t, g, o, hb, h => by
    rw [NdR] at h ⊢
    obtain ⟨⟨us, h1, h2, h3⟩, h4⟩ := h
    exact ⟨⟨us, h1, fun j u hj => hc _ _ hb (h2 j u hj), NdC.kept hc hg x us h3⟩, NdR.kept hc hg t g (o + 8) hb h4⟩
end
mutual
theorem NdC.low {B B' : Nat} {w : World} (hb : B' ≤ B) : ∀ (x : Nd) (us : List Value), NdC B w x us → NdC B' w x us
  | .mk op nm n v lo hi ps, us, h => by
    rw [NdC] at h ⊢
    obtain ⟨h0, s, a, m, c, ao, cp, h1, h2, h3, h4, h5⟩ := h
    refine ⟨h0, s, a, m, c, ao, cp, h1, h2, h3, h4, fun hne => ?_⟩
    obtain ⟨g, o, q1, q2, q3⟩ := h5 hne
    exact ⟨g, o, q1, Nat.le_trans hb q2, NdR.low hb ps g o q3⟩
theorem NdR.low {B B' : Nat} {w : World} (hb : B' ≤ B) : ∀ (l : List Nd) (g o : Nat), NdR B w l g o → NdR B' w l g o
  | [], _, _, _ => by rw [NdR]; trivial
  | x :: t, g, o, h => by
    rw [NdR] at h ⊢
    obtain ⟨⟨us, h1, h2, h3⟩, h4⟩ := h
    exact ⟨⟨us, h1, h2, NdC.low hb x us h3⟩, NdR.low hb t g (o + 8) h4⟩
end
theorem NdC.ext {B : Nat} {w w' : World} (e : Ext w w') {x : Nd} {us : List Value} (h : NdC B w x us) : NdC B w' x us := NdC.kept (fun _ _ _ hv => e.cell hv) e.gr x us h
theorem NdR.ext {B : Nat} {w w' : World} (e : Ext w w') : ∀ {l : List Nd} {g o : Nat}, NdR B w l g o → NdR B w' l g o
  | [], _, _, _ => by rw [NdR]; trivial
  | x :: t, g, o, h => by
    rw [NdR] at h ⊢
    obtain ⟨⟨us, h1, h2, h3⟩, h4⟩ := h
    exact ⟨⟨us, h1, fun j u hj => e.cell (h2 j u hj), h3.ext e⟩, NdR.ext e h4⟩
theorem Ob.cell {g : Nat} {w w' : World} (h : Ob g w w') {p : Addr} {v : Value} (hc : World.cell? w p = some v) (hg : p.block ≠ g) : World.cell? w' p = some v :=
  (World.cell?_of_block (w := w) (h.block p.block (World.block_lt_of_cell? w p hc) hg)).trans hc
theorem NdC.ob {B g : Nat} {w w' : World} (O : Ob g w w') (hg : g < B) {x : Nd} {us : List Value} (h : NdC B w x us) : NdC B w' x us := NdC.kept (fun p _ hp hv => O.cell hv (by omega)) O.gr x us h
theorem NdR.get {B : Nat} {w : World} : ∀ {l : List Nd} {g o i : Nat} {x : Nd}, NdR B w l g o → l[i]? = some x → ∃ us : List Value, us.length = 8 ∧ (∀ j u, us[j]? = some u → World.cell? w ⟨g, o + 8 * i + j, none⟩ = some u) ∧ NdC B w x us
  | [], _, _, _, _, _, h => by simp at h
  | x :: t, g, o, 0, y, h, hi => by
    rw [NdR] at h
    obtain rfl : x = y := by simpa using hi
    obtain ⟨us, h1, h2, h3⟩ := h.1
    exact ⟨us, h1, fun j u hj => by simpa using h2 j u hj, h3⟩
  | x :: t, g, o, i + 1, y, h, hi => by
    rw [NdR] at h
    obtain ⟨us, h1, h2, h3⟩ := NdR.get (l := t) (i := i) h.2 (by simpa using hi)
    exact ⟨us, h1, fun j u hj => by have := h2 j u hj; rwa [show o + 8 + 8 * i + j = o + 8 * (i + 1) + j by omega] at this, h3⟩
theorem NdR.of {B : Nat} {w : World} : ∀ {l : List Nd} {g o : Nat}, (∀ i x, l[i]? = some x → ∃ us : List Value, us.length = 8 ∧ (∀ j u, us[j]? = some u → World.cell? w ⟨g, o + 8 * i + j, none⟩ = some u) ∧ NdC B w x us) → NdR B w l g o
  | [], _, _, _ => by rw [NdR]; trivial
  | x :: t, g, o, h => by
    rw [NdR]
    refine ⟨?_, NdR.of fun i y hi => ?_⟩
    · obtain ⟨us, h1, h2, h3⟩ := h 0 x rfl
      exact ⟨us, h1, fun j u hj => by simpa using h2 j u hj, h3⟩
    · obtain ⟨us, h1, h2, h3⟩ := h (i + 1) y (by simpa using hi)
      exact ⟨us, h1, fun j u hj => by have := h2 j u hj; rwa [show o + 8 * (i + 1) + j = o + 8 + 8 * i + j by omega] at this, h3⟩
/-- The cells of an expression, opened. -/
theorem NdC.out {B : Nat} {w : World} {x : Nd} {us : List Value} (h : NdC B w x us) : ∃ (s : Bool) (a : Option Addr) (m c : Nat) (ao : Option Addr) (cp : Nat), us = [.int .i64 x.op, encS x.nm, .int .i64 x.n, .bool s, .slice a m c, .int .i64 x.lo, .int .i64 x.hi, .slice ao x.ps.length cp] ∧
    IsI 136 x.v (.agg #[.bool s, .slice a m c]) w ∧ x.ps.length ≤ cp ∧ cp ≤ 9223372036854775807 ∧ (x.ps ≠ [] → ∃ g o, ao = some ⟨g, o, none⟩ ∧ B ≤ g ∧ NdR B w x.ps g o) := by
  obtain ⟨op, nm, n, v, lo, hi, ps⟩ := x
  rw [NdC] at h
  exact h.2
theorem NdC.bd {B : Nat} {w : World} {x : Nd} {us : List Value} (h : NdC B w x us) : x.nm.length ≤ 4611686018427387904 ∧ -9223372036854775808 ≤ x.op ∧ x.op ≤ 9223372036854775807 := by
  obtain ⟨op, nm, n, v, lo, hi, ps⟩ := x
  rw [NdC] at h
  exact h.1
theorem NdC.mk' {B : Nat} {w : World} {x : Nd} {us : List Value} {s : Bool} {a : Option Addr} {m c : Nat} {ao : Option Addr} {cp : Nat} (h0 : NdBd x.nm x.op) (h1 : us = [.int .i64 x.op, encS x.nm, .int .i64 x.n, .bool s, .slice a m c, .int .i64 x.lo, .int .i64 x.hi, .slice ao x.ps.length cp])
    (h2 : IsI 136 x.v (.agg #[.bool s, .slice a m c]) w) (h3 : x.ps.length ≤ cp) (h4 : cp ≤ 9223372036854775807) (h5 : x.ps ≠ [] → ∃ g o, ao = some ⟨g, o, none⟩ ∧ B ≤ g ∧ NdR B w x.ps g o) : NdC B w x us := by
  obtain ⟨op, nm, n, v, lo, hi, ps⟩ := x
  rw [NdC]
  exact ⟨h0, s, a, m, c, ao, cp, h1, h2, h3, h4, h5⟩
theorem NdC.len {B : Nat} {w : World} {x : Nd} {us : List Value} (h : NdC B w x us) : us.length = 8 := by
  obtain ⟨_, _, _, _, _, _, rfl, _⟩ := h.out; rfl
theorem NdC.nw {B : Nat} {w : World} {x : Nd} {us : List Value} (h : NdC B w x us) : (∀ v ∈ us, NoWord v) ∧ us.all (fun u => u.oneCell') = true := by
  obtain ⟨_, _, _, _, _, _, rfl, _⟩ := h.out
  exact ⟨nwNd, rfl⟩
/-- An expression ps a value. -/
def IsNd (B : Nat) (x : Nd) : Value → World → Prop := fun v w => ∃ us : List Value, v = .agg us.toArray ∧ NdC B w x us
theorem IsNd.stb (B : Nat) (x : Nd) : Stb (IsNd B x) := fun _ _ _ e ⟨us, h1, h2⟩ => ⟨us, h1, h2.ext e⟩
theorem IsNd.ext {B : Nat} {x : Nd} {v : Value} {w w' : World} (h : IsNd B x v w) (e : Ext w w') : IsNd B x v w' := IsNd.stb B x _ _ _ e h
theorem IsNd.ob {B g : Nat} {x : Nd} {v : Value} {w w' : World} (h : IsNd B x v w) (O : Ob g w w') (hg : g < B) : IsNd B x v w' := let ⟨us, h1, h2⟩ := h; ⟨us, h1, h2.ob O hg⟩
theorem IsNd.low {B B' : Nat} {x : Nd} {v : Value} {w : World} (h : IsNd B x v w) (hb : B' ≤ B) : IsNd B' x v w := let ⟨us, h1, h2⟩ := h; ⟨us, h1, NdC.low hb x us h2⟩
/-! ### Scopes -/
theorem IsSc.stb (B : Nat) (b : Sc) : Stb (IsSc B b) := fun _ _ _ e h => h.ext e
theorem IsSr.stb (b : Sc) : Stb (IsSr b) := fun _ _ _ e h => h.ext e
theorem IsSc.ob {B g : Nat} {b : Sc} {v : Value} {w w' : World} (h : IsSc B b v w) (O : Ob g w w') (hg : g < B) : IsSc B b v w' := by
  obtain ⟨ao, c, h1, h2, h3, h4, h5⟩ := h
  refine ⟨ao, c, h1, h2, h3, h4, fun hne => ?_⟩
  obtain ⟨g', q1, q2, q3, q4⟩ := h5 hne
  exact ⟨g', q1, q2, Nat.lt_of_lt_of_le q3 O.size, fun j s hj => O.cell (q4 j s hj) (by simp; omega)⟩
/-! ### Cells -/
/-- A row of cells: nine values each. -/
def IsCs (B : Nat) (l : List Cl) : Value → World → Prop := fun v w => ∃ ao c, v = .slice ao l.length c ∧ l.length ≤ c ∧ c ≤ 9223372036854775807 ∧
  (l ≠ [] → ∃ g o, ao = some ⟨g, o, none⟩ ∧ B ≤ g ∧ ∀ i x, l[i]? = some x → ∃ us : List Value, (∀ j u, us[j]? = some u → World.cell? w ⟨g, o + 9 * i + 1 + j, none⟩ = some u) ∧ NdC B w x.e us ∧ World.cell? w ⟨g, o + 9 * i, none⟩ = some (encS x.nm))
theorem IsCs.stb (B : Nat) (l : List Cl) : Stb (IsCs B l) := fun _ _ _ e ⟨ao, c, h1, h2, h3, h4⟩ => ⟨ao, c, h1, h2, h3, fun hne => let ⟨g, o, q1, q2, q3⟩ := h4 hne; ⟨g, o, q1, q2, fun i x hi => let ⟨us, r1, r2, r3⟩ := q3 i x hi; ⟨us, fun j u hj => e.cell (r1 j u hj), r2.ext e, e.cell r3⟩⟩⟩
theorem IsCs.ext {B : Nat} {l : List Cl} {v : Value} {w w' : World} (h : IsCs B l v w) (e : Ext w w') : IsCs B l v w' := IsCs.stb B l _ _ _ e h
theorem IsCs.ob {B g : Nat} {l : List Cl} {v : Value} {w w' : World} (h : IsCs B l v w) (O : Ob g w w') (hg : g < B) : IsCs B l v w' := by
  obtain ⟨ao, c, h1, h2, h3, h4⟩ := h
  refine ⟨ao, c, h1, h2, h3, fun hne => ?_⟩
  obtain ⟨g', o, q1, q2, q3⟩ := h4 hne
  refine ⟨g', o, q1, q2, fun i x hi => ?_⟩
  obtain ⟨us, r1, r2, r3⟩ := q3 i x hi
  exact ⟨us, fun j u hj => O.cell (r1 j u hj) (by simp; omega), r2.ob O hg, O.cell r3 (by simp; omega)⟩
theorem IsCs.low {B B' : Nat} {l : List Cl} {v : Value} {w : World} (h : IsCs B l v w) (hb : B' ≤ B) : IsCs B' l v w :=
  let ⟨ao, c, h1, h2, h3, h4⟩ := h; ⟨ao, c, h1, h2, h3, fun hne => let ⟨g, o, q1, q2, q3⟩ := h4 hne; ⟨g, o, q1, Nat.le_trans hb q2, fun i x hi => let ⟨us, r1, r2, r3⟩ := q3 i x hi; ⟨us, r1, NdC.low hb x.e us r2, r3⟩⟩⟩
theorem IsCs.nil (B : Nat) (w : World) : IsCs B [] (.slice none 0 0) w := ⟨none, 0, rfl, Nat.le_refl _, by decide, fun h => absurd rfl h⟩
end Go.Proofs.YtenhciieboegbaaGreatDoor
namespace Go.Proofs.YtenhciieboegbaaGreatDoor
open Go Go.RowKit
theorem rB {v : Value} {r b : Bool} (hv : v = .bool b) (h : b = r) : Ending.returned v = .returned (.bool r) := by rw [hv, h]
set_option maxRecDepth 100000 in
set_option maxHeartbeats 4000000 in
theorem plain_f {w : World} {op n lo hi op' n' lo' hi' : Int} {nm nm' : List UInt8} {s : Bool} {a : Option Addr} {m c : Nat} {ao ao' : Option Addr} {la cp la' cp' : Nat} :
    Calls Tryz.prog 100 #[.agg #[.int .i64 op, encS nm, .int .i64 n, .bool s, .slice a m c, .int .i64 lo, .int .i64 hi, .slice ao la cp], .agg #[.int .i64 op', encS nm', .int .i64 n', .bool false, .slice none 0 0, .int .i64 lo', .int .i64 hi', .slice ao' la' cp']] w
      (RVal w (.bool (decide (nm = nm' ∧ n = n' ∧ lo = lo' ∧ hi = hi' ∧ m = 0 ∧ s = false ∧ la = la')))) := by
  obtain ⟨W, hW, E, B1, B2⟩ : ∃ W, W = (w.alloc (.cells #[.int .i64 op, encS nm, .int .i64 n, .bool s, .slice a m c, .int .i64 lo, .int .i64 hi, .slice ao la cp] 32)).alloc (.cells #[.int .i64 op', encS nm', .int .i64 n', .bool false, .slice none 0 0, .int .i64 lo', .int .i64 hi', .slice ao' la' cp'] 32) ∧ Ext w W ∧
      Bk W w.heap.size [.int .i64 op, encS nm, .int .i64 n, .bool s, .slice a m c, .int .i64 lo, .int .i64 hi, .slice ao la cp] ∧ Bk W (w.heap.size + 1) [.int .i64 op', encS nm', .int .i64 n', .bool false, .slice none 0 0, .int .i64 lo', .int .i64 hi', .slice ao' la' cp'] :=
    ⟨_, rfl, ((Ext.refl w).alloc _).alloc _, (Bk.new w _ _).ext ((Ext.refl _).alloc _), Bk.newE _ _ (by simp) _ _⟩
  obtain ⟨r, hr⟩ : ∃ r, decide (nm = nm' ∧ n = n' ∧ lo = lo' ∧ hi = hi' ∧ m = 0 ∧ s = false ∧ la = la') = r := ⟨_, rfl⟩
  rw [hr]
  have HR := hid hr
  clear hr
  go_enter Tryz.func100, Tryz.ntmps100
  go_upto_region 1 with (fail)
  rw [encS, encS] at *
  rw [← hW]
  clear hW
  obtain ⟨g, hg⟩ : ∃ g, w.heap.size = g := ⟨_, rfl⟩
  rw [hg] at B1 B2 ⊢
  have a1 := B1.c 1 _ rfl
  have a2 := B1.c 2 _ rfl
  have a3 := B1.c 3 _ rfl
  have a4 := B1.c 4 _ rfl
  have a5 := B1.c 5 _ rfl
  have a6 := B1.c 6 _ rfl
  have a7 := B1.c 7 _ rfl
  have b1 := B2.c 1 _ rfl
  have b2 := B2.c 2 _ rfl
  have b3 := B2.c 3 _ rfl
  have b4 := B2.c 4 _ rfl
  have b5 := B2.c 5 _ rfl
  have b6 := B2.c 6 _ rfl
  have b7 := B2.c 7 _ rfl
  have HE := hid E
  clear B1 B2 E hg
  go_wp2
  all_goals (go_ret; refine ⟨rB rfl ?_, HE.out⟩; rw [← HR.out, Bool.eq_iff_iff]; clear a1 a2 a3 a4 a5 a6 a7 b1 b2 b3 b4 b5 b6 b7; simp_all <;> omega)
end Go.Proofs.YtenhciieboegbaaGreatDoor
