/-
 Boxes of structs made of integers: each field of two cells has its place (block, number of the field). No condition on the program. Values of four fields (intervals), and their boxes. No condition. Short lemmas for the operations of a region: an operand's fact (Od), an operation's (Ok). No condition on the program.
-/
import Derived.Test.YtkeikfekkdplgaaGreatDoorRgm
namespace Go.Proofs.YtkeikfekkdplgaaGreatDoor
open Go Go.RowKit

/-- Field i of block g: two cells, not frozen. -/
structure Bo (w : World) (g i : Nat) (s : Bool) (a : Option Addr) (n c : Nat) : Prop where
 c0 : w.cell? ⟨g, 2 * i, none⟩ = some (.bool s)
 c1 : w.cell? ⟨g, 2 * i + 1, none⟩ = some (.slice a n c)
 f0 : w.frozen? ⟨g, 2 * i, none⟩ = false
 f1 : w.frozen? ⟨g, 2 * i + 1, none⟩ = false
theorem Bo.lt {w : World} {g i n c : Nat} {s : Bool} {a : Option Addr} (h : Bo w g i s a n c) : g < w.heap.size := World.block_lt_of_cell? w ⟨g, 2 * i, none⟩ h.c0
theorem Bo.ext {w w' : World} {g i n c : Nat} {s : Bool} {a : Option Addr} (h : Bo w g i s a n c) (e : Ext w w') : Bo w' g i s a n c :=
 ⟨e.cell h.c0, e.cell h.c1, (e.frozen h.lt).trans h.f0, (e.frozen h.lt).trans h.f1⟩
/-- Field i of block g has been written, nothing else that was there. -/
def Po (g i : Nat) (w w' : World) : Prop :=
 (∀ g2 i2 s a n c, (g2, i2) ≠ (g, i) → Bo w g2 i2 s a n c → Bo w' g2 i2 s a n c) ∧ Gr w w' ∧ (∀ w0 : World, Ext w0 w → w0.heap.size ≤ g → Ext w0 w')
theorem Bo.put {w : World} {g i n c : Nat} {s : Bool} {a : Option Addr} (b : Bo w g i s a n c) (s' : Bool) (a' : Option Addr) (n' c' : Nat) :
  ∃ W, W = (w.setCell ⟨g, 2 * i, none⟩ (.bool s')).setCell ⟨g, 2 * i + 1, none⟩ (.slice a' n' c') ∧ Bo W g i s' a' n' c' ∧ Po g i w W := by
 refine ⟨_, rfl, ⟨?_, ?_, ?_, ?_⟩, fun g2 i2 s2 a2 n2 c2 hg b2 => ?_, ?_, fun w0 e hg => (e.set hg _).set hg _⟩
 ·rw [World.cell?_setCell_other _ _ _ _ (by simp), World.cell?_setCell_same _ _ _ b.c0]
 ·refine World.cell?_setCell_same _ _ _ (u := .slice a n c) ?_
  rw [World.cell?_setCell_other _ _ _ _ (by simp)]; exact b.c1
 ·simp [b.f0]
 ·simp [b.f1]
 ·have h : ∀ j k : Nat, j ≤ 1 → k ≤ 1 → (⟨g, 2 * i + j, none⟩ : Addr) ≠ ⟨g2, 2 * i2 + k, none⟩ := fun j k hj hk he => by
   injection he with e1 e2
   exact hg (by rw [show g2 = g from e1.symm, show i2 = i by omega])
  have h00 : (⟨g, 2 * i, none⟩ : Addr) ≠ ⟨g2, 2 * i2, none⟩ := h 0 0 (by omega) (by omega)
  have h10 : (⟨g, 2 * i + 1, none⟩ : Addr) ≠ ⟨g2, 2 * i2, none⟩ := h 1 0 (by omega) (by omega)
  have h01 : (⟨g, 2 * i, none⟩ : Addr) ≠ ⟨g2, 2 * i2 + 1, none⟩ := h 0 1 (by omega) (by omega)
  have h11 : (⟨g, 2 * i + 1, none⟩ : Addr) ≠ ⟨g2, 2 * i2 + 1, none⟩ := h 1 1 (by omega) (by omega)
  refine ⟨?_, ?_, ?_, ?_⟩
  ·rw [World.cell?_setCell_other _ _ _ _ h10, World.cell?_setCell_other _ _ _ _ h00]; exact b2.c0
  ·rw [World.cell?_setCell_other _ _ _ _ h11, World.cell?_setCell_other _ _ _ _ h01]; exact b2.c1
  ·simp [b2.f0]
  ·simp [b2.f1]
 ·refine ((Gr.refl w).set b.c0 (NoWord.bool _) _).set (p := ⟨g, 2 * i + 1, none⟩) (u := .slice a n c) ?_ (NoWord.slice _ _ _) _
  rw [World.cell?_setCell_other _ _ _ _ (by simp)]; exact b.c1

/-- A place and what is known of the field there. -/
abbrev Fld := (Nat × Nat) × (Value → World → Prop)
/-- The fields of a call's boxes; w0 is where the call began. -/
structure Sto (w0 w : World) (B : List Fld) : Prop where
 ext : Ext w0 w
 box : ∀ p ∈ B, w0.heap.size ≤ p.1.1 ∧ ∃ s a n c, Bo w p.1.1 p.1.2 s a n c ∧ p.2 (.agg #[.bool s, .slice a n c]) w
 stb : ∀ p ∈ B, GStb p.2
 apart : B.Pairwise (fun p q => p.1 ≠ q.1)
theorem Sto.start (w : World) : Sto w w [] := ⟨Ext.refl w, (fun _ h => by cases h), (fun _ h => by cases h), List.Pairwise.nil⟩
theorem Sto.mono {w0 w w' : World} {B : List Fld} (h : Sto w0 w B) (e : Ext w w') : Sto w0 w' B :=
 ⟨h.ext.trans e, fun p hp => let ⟨h1, s, a, n, c, h2, h3⟩ := h.box p hp; ⟨h1, s, a, n, c, h2.ext e, h.stb p hp _ _ _ e.gr h3⟩, h.stb, h.apart⟩
theorem Sto.lt {w0 w : World} {B : List Fld} (h : Sto w0 w B) : ∀ p ∈ B, p.1.1 < w.heap.size := fun p hp => let ⟨_, _, _, _, _, h2, _⟩ := h.box p hp; h2.lt
theorem Sto.at {w0 w : World} {B : List Fld} (h : Sto w0 w B) (i : Nat) (g k : Nat) (Φ : Value → World → Prop) (hp : B[i]? = some ((g, k), Φ)) :
  ∃ s a n c, Bo w g k s a n c ∧ Φ (.agg #[.bool s, .slice a n c]) w := (h.box _ (List.mem_of_getElem? hp)).2
/-- One field more. -/
theorem Sto.add {w0 w : World} {B : List Fld} (h : Sto w0 w B) {g k : Nat} {s : Bool} {a : Option Addr} {n c : Nat} {Φ : Value → World → Prop} (hb : Bo w g k s a n c) (hg : w0.heap.size ≤ g) (hn : ∀ p ∈ B, p.1 ≠ (g, k))
  (hs : GStb Φ) (hΦ : Φ (.agg #[.bool s, .slice a n c]) w) : Sto w0 w (((g, k), Φ) :: B) := by
 refine ⟨h.ext, fun p hp => ?_, fun p hp => ?_, List.Pairwise.cons (fun q hq he => hn q hq he.symm) h.apart⟩
 ·rcases List.mem_cons.1 hp with rfl | hp
  ·exact ⟨hg, s, a, n, c, hb, hΦ⟩
  ·exact h.box p hp
 ·rcases List.mem_cons.1 hp with rfl | hp
  ·exact hs
  ·exact h.stb p hp
/-- Place number i is written. -/
theorem Sto.put {w0 w : World} {B : List Fld} (h : Sto w0 w B) (i : Nat) (g k : Nat) (Φ Ψ : Value → World → Prop) (hp : B[i]? = some ((g, k), Φ)) (s : Bool) (a : Option Addr) (n c : Nat) (hs : GStb Ψ) (hΨ : Ψ (.agg #[.bool s, .slice a n c]) w) :
  ∃ W, W = (w.setCell ⟨g, 2 * k, none⟩ (.bool s)).setCell ⟨g, 2 * k + 1, none⟩ (.slice a n c) ∧ Sto w0 W (B.set i ((g, k), Ψ)) ∧ Gr w W := by
 obtain ⟨s', a', n', c', hb, _⟩ := (h.box _ (List.mem_of_getElem? hp)).2
 have hg : w0.heap.size ≤ g := (h.box _ (List.mem_of_getElem? hp)).1
 obtain ⟨W, h1, h2, h3⟩ := hb.put s a n c
 have hi : i < B.length := (List.getElem?_eq_some_iff.1 hp).1
 have hBi : B[i] = ((g, k), Φ) := (List.getElem?_eq_some_iff.1 hp).2
 refine ⟨W, h1, ⟨h3.2.2 _ h.ext hg, fun p hpm => ?_, fun p hpm => ?_, ?_⟩, h3.2.1⟩
 ·rcases List.mem_or_eq_of_mem_set hpm with hpm' | rfl
  ·by_cases hgp : p.1 = (g, k)
   ·obtain ⟨j, hj, hpj⟩ := List.mem_iff_getElem.1 hpm
    by_cases hij : i = j
    ·subst hij
     rw [List.getElem_set_self] at hpj
     subst hpj
     exact ⟨hg, s, a, n, c, h2, hs _ _ _ h3.2.1 hΨ⟩
    ·rw [List.getElem_set_ne hij] at hpj
     exfalso
     have hj' : j < B.length := by simpa using hj
     rcases Nat.lt_or_gt_of_ne hij with hlt | hlt
     ·have := List.pairwise_iff_getElem.1 h.apart i j hi hj' hlt
      rw [hBi, hpj] at this; exact this hgp.symm
     ·have := List.pairwise_iff_getElem.1 h.apart j i hj' hi hlt
      rw [hBi, hpj] at this; exact this hgp
   ·obtain ⟨h4, s4, a4, n4, c4, h5, h6⟩ := h.box p hpm'
    exact ⟨h4, s4, a4, n4, c4, h3.1 _ _ _ _ _ _ hgp h5, h.stb p hpm' _ _ _ h3.2.1 h6⟩
  ·exact ⟨hg, s, a, n, c, h2, hs _ _ _ h3.2.1 hΨ⟩
 ·rcases List.mem_or_eq_of_mem_set hpm with hpm' | rfl
  ·exact h.stb p hpm'
  ·exact hs
 ·rw [List.pairwise_iff_getElem]
  intro j l hj hl hjl
  have hj' : j < B.length := by simpa using hj
  have hl' : l < B.length := by simpa using hl
  have key := List.pairwise_iff_getElem.1 h.apart j l hj' hl' hjl
  rw [List.getElem_set, List.getElem_set]
  split
  ·rename_i h5; subst h5
   rw [hBi] at key
   split
   ·omega
   ·exact key
  ·split
   ·rename_i h5; subst h5; rw [hBi] at key; exact key
   ·exact key
/-- No place of B is in block g. -/
def ApartO (g : Nat) (B : List Fld) : Prop := ∀ p ∈ B, p.1.1 ≠ g
theorem ApartO.old {W : World} {B : List Fld} {g : Nat} (h : ∀ p ∈ B, p.1.1 < W.heap.size) (hg : W.heap.size ≤ g) : ApartO g B := fun p hp he => by have := h p hp; omega
theorem ApartO.cons {g g' k : Nat} {Φ : Value → World → Prop} {B : List Fld} (h : g' ≠ g) (l : ApartO g B) : ApartO g (((g', k), Φ) :: B) := fun p hp => by
 rcases List.mem_cons.1 hp with rfl | hp
 ·exact h
 ·exact l p hp
/-- A new block of m fields. -/
def IsBo (w0 : World) (m : Nat) : Value → World → Prop := fun x w => ∃ g, x = .pointer (some ⟨g, 0, none⟩) ∧ w0.heap.size ≤ g ∧ (∀ i, i < m → Bo w g i false none 0 0) ∧ g < w.heap.size
theorem IsBo.stb (w0 : World) (m : Nat) : Stb (IsBo w0 m) := fun _ _ _ e ⟨g, h1, h2, h3, h4⟩ => ⟨g, h1, h2, fun i hi => (h3 i hi).ext e, Nat.lt_of_lt_of_le h4 e.size⟩
theorem IsBo.box (w0 : World) (m : Nat) : IsBox (IsBo w0 m) := fun _ _ ⟨g, h1, _, _, h4⟩ => ⟨g, h1, h4⟩
/-- The fields 0 .. m-1 of a new block, the last one first. -/
def newF (g : Nat) : Nat → List Fld
 | 0 => []
 | m + 1 => ((g, m), IsI 0 0) :: newF g m
theorem newF.lt {g m : Nat} : ∀ p ∈ newF g m, p.1.1 = g ∧ p.1.2 < m := by
 induction m with
 | zero => intro p hp; cases hp
 | succ m ih =>
  intro p hp
  rcases List.mem_cons.1 hp with rfl | hp
  ·exact ⟨rfl, Nat.lt_succ_self m⟩
  ·have := ih p hp; exact ⟨this.1, by omega⟩
theorem Sto.addN {w0 w : World} {B : List Fld} (h : Sto w0 w B) {g : Nat} (m : Nat) (hn : ApartO g B) (hg : w0.heap.size ≤ g) (hb : ∀ i, i < m → Bo w g i false none 0 0) : Sto w0 w (newF g m ++ B) := by
 induction m with
 | zero => exact h
 | succ m ih =>
  refine (ih fun i hi => hb i (by omega)).add (hb m (by omega)) hg (fun p hp he => ?_) (IsI.gstb 0 0) (IsI.nil w 0)
  rcases List.mem_append.1 hp with hp | hp
  ·have := (newF.lt p hp).2; rw [he] at this; simp at this
  ·exact hn p hp (by rw [he])

theorem Bo.new1 (w : World) (s : Bool) (a : Option Addr) (n c : Nat) (t : TypeId) : Bo (w.alloc (.cells #[.bool s, .slice a n c] t)) w.heap.size 0 s a n c := ⟨by simp, by simp, by simp, by simp⟩
theorem Bo.new2 (w : World) (s s' : Bool) (a a' : Option Addr) (n c n' c' : Nat) (t : TypeId) :
  Bo (w.alloc (.cells #[.bool s, .slice a n c, .bool s', .slice a' n' c'] t)) w.heap.size 0 s a n c ∧ Bo (w.alloc (.cells #[.bool s, .slice a n c, .bool s', .slice a' n' c'] t)) w.heap.size 1 s' a' n' c' :=
 ⟨⟨by simp, by simp, by simp, by simp⟩, ⟨by simp, by simp, by simp, by simp⟩⟩
theorem IsBo.new1 (w0 w : World) (t : TypeId) (h : w0.heap.size ≤ w.heap.size) : IsBo w0 1 (.pointer (some ⟨w.heap.size, 0, none⟩)) (w.alloc (.cells #[.bool false, .slice none 0 0] t)) := by
 refine ⟨_, rfl, h, fun i hi => ?_, ?_⟩
 ·skip
  obtain rfl : i = 0 := by omega
  exact Bo.new1 _ _ _ _ _ _
 ·simp
theorem IsBo.new2 (w0 w : World) (t : TypeId) (h : w0.heap.size ≤ w.heap.size) : IsBo w0 2 (.pointer (some ⟨w.heap.size, 0, none⟩)) (w.alloc (.cells #[.bool false, .slice none 0 0, .bool false, .slice none 0 0] t)) := by
 refine ⟨_, rfl, h, fun i hi => ?_, ?_⟩
 ·skip
  have b := Bo.new2 w false false none none 0 0 0 0 t
  rcases (by omega : i = 0 ∨ i = 1) with rfl | rfl
  ·exact b.1
  ·exact b.2
 ·simp
theorem Sto.new1 {w0 w : World} {B : List Fld} (h : Sto w0 w B) (g : Nat) (hg : w.heap.size = g) (s : Bool) (a : Option Addr) (n c : Nat) (t : TypeId) (Φ : Value → World → Prop) (hs : GStb Φ) (hΦ : Φ (.agg #[.bool s, .slice a n c]) w) :
  Sto w0 (w.alloc (.cells #[.bool s, .slice a n c] t)) (((g, 0), Φ) :: B) := by
 subst hg
 have e : Ext w (w.alloc (.cells #[.bool s, .slice a n c] t)) := (Ext.refl w).alloc _
 exact (h.mono e).add (Bo.new1 _ _ _ _ _ _) h.ext.size (fun p hp he => by have := h.lt p hp; rw [he] at this; simp at this) hs (hs _ _ _ e.gr hΦ)
theorem Sto.new2 {w0 w : World} {B : List Fld} (h : Sto w0 w B) (g : Nat) (hg : w.heap.size = g) (s s' : Bool) (a a' : Option Addr) (n c n' c' : Nat) (t : TypeId) (Φ Ψ : Value → World → Prop) (hs : GStb Φ) (hΦ : Φ (.agg #[.bool s, .slice a n c]) w) (hs' : GStb Ψ) (hΨ : Ψ (.agg #[.bool s', .slice a' n' c']) w) :
  Sto w0 (w.alloc (.cells #[.bool s, .slice a n c, .bool s', .slice a' n' c'] t)) (((g, 1), Ψ) :: ((g, 0), Φ) :: B) := by
 subst hg
 have e : Ext w (w.alloc (.cells #[.bool s, .slice a n c, .bool s', .slice a' n' c'] t)) := (Ext.refl w).alloc _
 have b := Bo.new2 w s s' a a' n c n' c' t
 have hl : ∀ p ∈ B, p.1.1 ≠ w.heap.size := fun p hp he => by have := h.lt p hp; omega
 refine ((h.mono e).add b.1 h.ext.size (fun p hp he => hl p hp (by rw [he])) hs (hs _ _ _ e.gr hΦ)).add b.2 h.ext.size (fun p hp he => ?_) hs' (hs' _ _ _ e.gr hΨ)
 rcases List.mem_cons.1 hp with rfl | hp
 ·simp at he
 ·exact hl p hp (by rw [he])

/-- A fraction: two integers, one value of four cells. -/
def IsQ (Φ Ψ : Value → World → Prop) : Value → World → Prop := fun x w => ∃ s a n c s' a' n' c', x = .agg #[.bool s, .slice a n c, .bool s', .slice a' n' c'] ∧ Φ (.agg #[.bool s, .slice a n c]) w ∧ Ψ (.agg #[.bool s', .slice a' n' c']) w
theorem IsQ.gstb {Φ Ψ : Value → World → Prop} (h : GStb Φ) (k : GStb Ψ) : GStb (IsQ Φ Ψ) := fun _ _ _ e ⟨s, a, n, c, s', a', n', c', h1, h2, h3⟩ => ⟨s, a, n, c, s', a', n', c', h1, h _ _ _ e h2, k _ _ _ e h3⟩
theorem IsQ.stb {Φ Ψ : Value → World → Prop} (h : Stb Φ) (k : Stb Ψ) : Stb (IsQ Φ Ψ) := fun _ _ _ e ⟨s, a, n, c, s', a', n', c', h1, h2, h3⟩ => ⟨s, a, n, c, s', a', n', c', h1, h _ _ _ e h2, k _ _ _ e h3⟩
end Go.Proofs.YtkeikfekkdplgaaGreatDoor
namespace Go.Proofs.YtkeikfekkdplgaaGreatDoor
open Go Go.RowKit

/-- An interval: four integers, one value of eight cells. -/
def IsJ (Φ Ψ Χ Ω : Value → World → Prop) : Value → World → Prop := fun x w => ∃ s a n c s' a' n' c' s2 a2 n2 c2 s3 a3 n3 c3,
 x = .agg #[.bool s, .slice a n c, .bool s', .slice a' n' c', .bool s2, .slice a2 n2 c2, .bool s3, .slice a3 n3 c3] ∧ Φ (.agg #[.bool s, .slice a n c]) w ∧ Ψ (.agg #[.bool s', .slice a' n' c']) w ∧ Χ (.agg #[.bool s2, .slice a2 n2 c2]) w ∧ Ω (.agg #[.bool s3, .slice a3 n3 c3]) w
theorem IsJ.stb {Φ Ψ Χ Ω : Value → World → Prop} (h : Stb Φ) (k : Stb Ψ) (l : Stb Χ) (m : Stb Ω) : Stb (IsJ Φ Ψ Χ Ω) :=
 fun _ _ _ e ⟨s, a, n, c, s', a', n', c', s2, a2, n2, c2, s3, a3, n3, c3, h1, h2, h3, h4, h5⟩ => ⟨s, a, n, c, s', a', n', c', s2, a2, n2, c2, s3, a3, n3, c3, h1, h _ _ _ e h2, k _ _ _ e h3, l _ _ _ e h4, m _ _ _ e h5⟩
end Go.Proofs.YtkeikfekkdplgaaGreatDoor
namespace Go.Proofs.YtkeikfekkdplgaaGreatDoor
open Go Go.RowKit

section
variable {P : Program} {ops : Array Oper} {Q : Exit → Act → World → Prop} {ds : List (Option Tmp)} {a0 : Act} {w0 : World} {L : List (Value → World → Prop)} {boxes : List Nat} {i k : Nat} {o : Oper} {os : List Oper}

/-- What an operand holds wherever operation i runs. -/
structure Od (ops : Array Oper) (ds : List (Option Tmp)) (a0 : Act) (w0 : World) (L : List (Value → World → Prop)) (i : Nat) (x : Operand) (Φ : Value → World → Prop) : Prop where
 out : ∀ (v : Nat → Value) (a : Act) (w : World), Ext w0 w → (∀ j, (ups .any ops i).contains j = true → L.getD j (fun _ _ => True) (v j) w) → Fr ds a0 v a → Φ (a.eval x) w
structure Ok (P : Program) (ops : Array Oper) (Q : Exit → Act → World → Prop) (ds : List (Option Tmp)) (a0 : Act) (w0 : World) (L : List (Value → World → Prop)) (boxes : List Nat) (i : Nat) (o : Oper) : Prop where
 out : OpOk P .any ops Q ds a0 w0 L boxes i o

theorem eval_tmp (a : Act) (t : Nat) : a.eval (.tmp t) = a.tmps[t]?.getD undef := by simp [Act.eval]
theorem Od.loc (j t : Nat) (hu : (ups .any ops i).contains j = true := by kernel_rfl) (h1 : ds[j]? = some (some t) := by kernel_rfl) (h2 : (ds.drop (j + 1)).contains (some t) = false := by kernel_rfl) (h3 : decide (t < a0.tmps.size) = true := by kernel_rfl) :
  Od ops ds a0 w0 L i (.tmp t) (L.getD j (fun _ _ => True)) :=
 ⟨fun v a w _ hd hf => by rw [eval_tmp, hf.val j t _ rfl h1 h2 h3]; exact hd j hu⟩
theorem Od.lc (j t : Nat) {Φ : Value → World → Prop} (hL : L.getD j (fun _ _ => True) = Φ := by kernel_rfl) (hu : (ups .any ops i).contains j = true := by kernel_rfl) (h1 : ds[j]? = some (some t) := by kernel_rfl) (h2 : (ds.drop (j + 1)).contains (some t) = false := by kernel_rfl) (h3 : decide (t < a0.tmps.size) = true := by kernel_rfl) :
  Od ops ds a0 w0 L i (.tmp t) Φ := hL ▸ Od.loc j t hu h1 h2 h3
theorem Od.lit (t : Nat) {x : Value} (h1 : ds.contains (some t) = false := by kernel_rfl) (h2 : a0.tmps[t]? = some x := by kernel_rfl) : Od ops ds a0 w0 L i (.tmp t) (IsV x) :=
 ⟨fun v a w _ _ hf => by rw [eval_tmp, hf.lit t x h1 h2]; exact rfl⟩
theorem Od.con {x : Value} : Od ops ds a0 w0 L i (.const x) (IsV x) := ⟨fun _ _ _ _ _ _ => rfl⟩

theorem Rc (h : Ok P ops Q ds a0 w0 L boxes i o) (hs : RgAll P .any ops Q ds a0 w0 L boxes (i + 1) k os) (hg : o.guard = none := by rfl) : RgAll P .any ops Q ds a0 w0 L boxes i (k + 1) (o :: os) :=
 ⟨RgL.mk hg h.out, hs⟩
/-- The guard is met. -/
theorem RcG (g t : Nat) (b : Bool) (h : Ok P ops Q ds a0 w0 L boxes i o) (hs : RgAll P .any ops Q ds a0 w0 L boxes (i + 1) k os) (hg : o.guard = some (g, b) := by rfl) (hdst : dstOf ops g = some t := by kernel_rfl) (h1 : ds[g]? = some (some t) := by kernel_rfl) (h2 : (ds.drop (g + 1)).contains (some t) = false := by kernel_rfl) (h3 : decide (t < a0.tmps.size) = true := by kernel_rfl) (hu : (ups .any ops i).contains g = true := by kernel_rfl)
  (hL : L.getD g (fun _ _ => True) = IsV (.bool b) := by kernel_rfl) : RgAll P .any ops Q ds a0 w0 L boxes i (k + 1) (o :: os) :=
 ⟨RgL.mkG g t b hg hdst h1 h2 h3 hu (fun _ _ h => by rw [hL] at h; exact h) h.out, hs⟩
/-- The guard is not met. -/
theorem RcN (g t : Nat) (b : Bool) (hs : RgAll P .any ops Q ds a0 w0 L boxes (i + 1) k os) (hg : o.guard = some (g, !b) := by rfl) (hdst : dstOf ops g = some t := by kernel_rfl) (h1 : ds[g]? = some (some t) := by kernel_rfl) (h2 : (ds.drop (g + 1)).contains (some t) = false := by kernel_rfl) (h3 : decide (t < a0.tmps.size) = true := by kernel_rfl) (hu : (ups .any ops i).contains g = true := by kernel_rfl)
  (hL : L.getD g (fun _ _ => True) = IsV (.bool b) := by kernel_rfl) (hb : boxes.contains i = false := by kernel_rfl) (hi : L.getD i (fun _ _ => True) = IsV undef := by kernel_rfl) : RgAll P .any ops Q ds a0 w0 L boxes i (k + 1) (o :: os) :=
 ⟨RgL.mkN g t b hg hdst h1 h2 h3 hu (fun _ _ h => by rw [hL] at h; exact h) hb (fun _ => by rw [hi]; exact rfl), hs⟩
/-- An operation that hands back a value and leaves the world as it is. -/
theorem Ok.of (hb : boxes.contains i = false) (h : ∀ (v : Nat → Value) (a : Act) (w : World), Ext w0 w → (∀ j, (ups .any ops i).contains j = true → L.getD j (fun _ _ => True) (v j) w) → Fr ds a0 v a →
  ∃ x, (execOp a.eval o).run P w = .ok (.value x) w ∧ L.getD i (fun _ _ => True) x w) : Ok P ops Q ds a0 w0 L boxes i o :=
 ⟨fun v a w hE hd hf K hK => by
  obtain ⟨x, hr, hx⟩ := h v a w hE hd hf
  unfold Oper.wp
  rw [hr]
  exact hK.out x w (Ext.refl _) hx (FreshIf.no hb)⟩
theorem mv {x : Operand} (hx : Od ops ds a0 w0 L i x (L.getD i (fun _ _ => True))) (ho : (o.op = .move x ∨ o.op = .assign x) := by first | exact .inl rfl | exact .inr rfl) (hb : boxes.contains i = false := by kernel_rfl) : Ok P ops Q ds a0 w0 L boxes i o :=
 Ok.of hb fun v a w hE hd hf => by
  have h := hx.out v a w hE hd hf
  refine ⟨a.eval x, ?_, h⟩
  unfold execOp
  rcases ho with ho | ho <;> rw [ho] <;> rfl
theorem fa {x : Operand} {T f : Nat} {p r : Value} (hr : ∀ w, (Instr.fieldAt T p f).run P w = .ok r w) (hx : Od ops ds a0 w0 L i x (IsV p)) (ho : o.op = .fieldAddr T x f := by rfl) (hi : L.getD i (fun _ _ => True) = IsV r := by kernel_rfl) (hb : boxes.contains i = false := by kernel_rfl) : Ok P ops Q ds a0 w0 L boxes i o :=
 Ok.of hb fun v a w hE hd hf => by
  have h : a.eval x = p := hx.out v a w hE hd hf
  refine ⟨r, ?_, by rw [hi]; exact rfl⟩
  have := hr w
  unfold execOp
  rw [ho]
  dsimp only
  rw [h]
  simp [this]
/-- Loads of an integer, a fraction, an interval. -/
def LdI (P : Program) (T : TypeId) : Prop := ∀ (w : World) (b f : Nat) (s : Bool) (a : Option Addr) (n c : Nat), w.cell? ⟨b, f, none⟩ = some (.bool s) → w.cell? ⟨b, f + 1, none⟩ = some (.slice a n c) → (Instr.loadAt T (.pointer (some ⟨b, f, none⟩))).run P w = .ok (.agg #[.bool s, .slice a n c]) w
def LdQ (P : Program) (T : TypeId) : Prop := ∀ (w : World) (b f : Nat) (s : Bool) (a : Option Addr) (n c : Nat) (s' : Bool) (a' : Option Addr) (n' c' : Nat), w.cell? ⟨b, f, none⟩ = some (.bool s) → w.cell? ⟨b, f + 1, none⟩ = some (.slice a n c) → w.cell? ⟨b, f + 2, none⟩ = some (.bool s') → w.cell? ⟨b, f + 3, none⟩ = some (.slice a' n' c') →
 (Instr.loadAt T (.pointer (some ⟨b, f, none⟩))).run P w = .ok (.agg #[.bool s, .slice a n c, .bool s', .slice a' n' c']) w
theorem ld_run {x : Operand} {T : Nat} {a : Act} {p u : Value} {w : World} (ho : o.op = .load T x) (h : a.eval x = p) (hr : (Instr.loadAt T p).run P w = .ok u w) : (execOp a.eval o).run P w = .ok (.value u) w := by
 unfold execOp
 rw [ho]
 dsimp only
 rw [h]
 simp [hr]
theorem ldI {W : World} {B : List Fld} (S : Sto W w0 B) (j g q : Nat) {T : Nat} {x : Operand} (hx : Od ops ds a0 w0 L i x (IsV (.pointer (some ⟨g, 2 * q, none⟩)))) (hT : LdI P T) (ho : o.op = .load T x := by rfl)
  (hi : B[j]? = some ((g, q), L.getD i (fun _ _ => True)) := by kernel_rfl) (hb : boxes.contains i = false := by kernel_rfl) : Ok P ops Q ds a0 w0 L boxes i o :=
 Ok.of hb fun v a w hE hd hf => by
  have h : a.eval x = _ := hx.out v a w hE hd hf
  obtain ⟨s, a', n, c, b, h'⟩ := (S.mono hE).at j g q _ hi
  exact ⟨_, ld_run ho h (hT w g (2 * q) _ _ _ _ b.c0 b.c1), h'⟩
theorem ldQ {W : World} {B : List Fld} (S : Sto W w0 B) (j j2 g q : Nat) {T : Nat} {x : Operand} {Φ Ψ : Value → World → Prop} (hx : Od ops ds a0 w0 L i x (IsV (.pointer (some ⟨g, 2 * q, none⟩)))) (hT : LdQ P T) (h1 : B[j]? = some ((g, q), Φ)) (h2 : B[j2]? = some ((g, q + 1), Ψ)) (ho : o.op = .load T x := by rfl)
  (hi : L.getD i (fun _ _ => True) = IsQ Φ Ψ := by kernel_rfl) (hb : boxes.contains i = false := by kernel_rfl) : Ok P ops Q ds a0 w0 L boxes i o :=
 Ok.of hb fun v a w hE hd hf => by
  have h : a.eval x = _ := hx.out v a w hE hd hf
  obtain ⟨s, a', n, c, b, h'⟩ := (S.mono hE).at j g q _ h1
  obtain ⟨s2, a2, n2, c2, b2, h2'⟩ := (S.mono hE).at j2 g (q + 1) _ h2
  exact ⟨_, ld_run ho h (hT w g (2 * q) _ _ _ _ _ _ _ _ b.c0 b.c1 b2.c0 b2.c1), by rw [hi]; exact ⟨_, _, _, _, _, _, _, _, rfl, h', h2'⟩⟩
/-- A call of a function by its name, or of a function value. -/
theorem cl {f : FuncId} {c : Call} {Χ : Value → World → Prop} (he : ∀ args w, (callFunc f args).run P w = .ok (.enter f args) w) (ho : o.op = .call c) (hc : c.callee = .value (.func f)) (hi : L.getD i (fun _ _ => True) = Χ) (hb : boxes.contains i = false)
  (h : ∀ (v : Nat → Value) (a : Act) (w : World), Ext w0 w → (∀ j, (ups .any ops i).contains j = true → L.getD j (fun _ _ => True) (v j) w) → Fr ds a0 v a → Calls P f (c.args.map a.eval) w (Ret w Χ)) : Ok P ops Q ds a0 w0 L boxes i o :=
 ⟨fun v a w hE hd hf K hK => by
  have hr : (execOp a.eval o).run P w = .ok (.enter f (c.args.map a.eval)) w := by
   unfold execOp
   rw [ho]
   dsimp only
   unfold resolve
   rw [hc]
   simp [invoke, he, Deferred.ofValue, show a.eval (.func f) = .func (.func f) #[] #[] from rfl]
  unfold Oper.wp
  rw [hr, Oper.upon_enter]
  refine Calls.mono (h v a w hE hd hf) ?_
  rintro e w2 ⟨x, rfl, e2, hx⟩
  exact hK.out _ _ e2 (by rw [hi]; exact hx) (FreshIf.no hb)⟩
theorem clv {f : FuncId} {c : Call} {t : Operand} {caps : Array Value} {Χ : Value → World → Prop} (ht : Od ops ds a0 w0 L i t (IsV (.func (.func f) #[] caps))) (he : ∀ args w, (callFunc f args).run P w = .ok (.enter f args) w) (ho : o.op = .call c) (hc : c.callee = .value t) (hi : L.getD i (fun _ _ => True) = Χ) (hb : boxes.contains i = false)
  (h : ∀ (v : Nat → Value) (a : Act) (w : World), Ext w0 w → (∀ j, (ups .any ops i).contains j = true → L.getD j (fun _ _ => True) (v j) w) → Fr ds a0 v a → Calls P f (c.args.map a.eval ++ caps) w (Ret w Χ)) : Ok P ops Q ds a0 w0 L boxes i o :=
 ⟨fun v a w hE hd hf K hK => by
  have h0 : a.eval t = _ := ht.out v a w hE hd hf
  have hr : (execOp a.eval o).run P w = .ok (.enter f (c.args.map a.eval ++ caps)) w := by
   unfold execOp
   rw [ho]
   dsimp only
   unfold resolve
   rw [hc]
   simp [invoke, he, h0, Deferred.ofValue]
  unfold Oper.wp
  rw [hr, Oper.upon_enter]
  refine Calls.mono (h v a w hE hd hf) ?_
  rintro e w2 ⟨x, rfl, e2, hx⟩
  exact hK.out _ _ e2 (by rw [hi]; exact hx) (FreshIf.no hb)⟩
theorem cl0 {f : FuncId} {c : Call} {Χ : Value → World → Prop} (he : ∀ args w, (callFunc f args).run P w = .ok (.enter f args) w) (h : ∀ w, Ext w0 w → Calls P f #[] w (Ret w Χ))
  (ho : o.op = .call c := by rfl) (hc : c.callee = .value (.func f) := by rfl) (ha : c.args = #[] := by rfl) (hi : L.getD i (fun _ _ => True) = Χ := by kernel_rfl) (hb : boxes.contains i = false := by kernel_rfl) : Ok P ops Q ds a0 w0 L boxes i o :=
 cl he ho hc hi hb fun v a w hE hd hf => by rw [ha, show (#[] : Array Operand).map a.eval = #[] by simp]; exact h w hE
theorem cl1 {f : FuncId} {c : Call} {x : Operand} {Φ Χ : Value → World → Prop} (he : ∀ args w, (callFunc f args).run P w = .ok (.enter f args) w) (hx : Od ops ds a0 w0 L i x Φ) (h : ∀ u w, Ext w0 w → Φ u w → Calls P f #[u] w (Ret w Χ))
  (ho : o.op = .call c := by rfl) (hc : c.callee = .value (.func f) := by rfl) (ha : c.args = #[x] := by rfl) (hi : L.getD i (fun _ _ => True) = Χ := by kernel_rfl) (hb : boxes.contains i = false := by kernel_rfl) : Ok P ops Q ds a0 w0 L boxes i o :=
 cl he ho hc hi hb fun v a w hE hd hf => by rw [ha, show (#[x] : Array Operand).map a.eval = #[a.eval x] by simp]; exact h _ w hE (hx.out v a w hE hd hf)
theorem cl2 {f : FuncId} {c : Call} {x y : Operand} {Φ Ψ Χ : Value → World → Prop} (he : ∀ args w, (callFunc f args).run P w = .ok (.enter f args) w) (hx : Od ops ds a0 w0 L i x Φ) (hy : Od ops ds a0 w0 L i y Ψ) (h : ∀ u u' w, Ext w0 w → Φ u w → Ψ u' w → Calls P f #[u, u'] w (Ret w Χ))
  (ho : o.op = .call c := by rfl) (hc : c.callee = .value (.func f) := by rfl) (ha : c.args = #[x, y] := by rfl) (hi : L.getD i (fun _ _ => True) = Χ := by kernel_rfl) (hb : boxes.contains i = false := by kernel_rfl) : Ok P ops Q ds a0 w0 L boxes i o :=
 cl he ho hc hi hb fun v a w hE hd hf => by rw [ha, show (#[x, y] : Array Operand).map a.eval = #[a.eval x, a.eval y] by simp]; exact h _ _ w hE (hx.out v a w hE hd hf) (hy.out v a w hE hd hf)
theorem cl3 {f : FuncId} {c : Call} {x y z : Operand} {Φ Ψ Ω Χ : Value → World → Prop} (he : ∀ args w, (callFunc f args).run P w = .ok (.enter f args) w) (hx : Od ops ds a0 w0 L i x Φ) (hy : Od ops ds a0 w0 L i y Ψ) (hz : Od ops ds a0 w0 L i z Ω) (h : ∀ u u' u2 w, Ext w0 w → Φ u w → Ψ u' w → Ω u2 w → Calls P f #[u, u', u2] w (Ret w Χ))
  (ho : o.op = .call c := by rfl) (hc : c.callee = .value (.func f) := by rfl) (ha : c.args = #[x, y, z] := by rfl) (hi : L.getD i (fun _ _ => True) = Χ := by kernel_rfl) (hb : boxes.contains i = false := by kernel_rfl) : Ok P ops Q ds a0 w0 L boxes i o :=
 cl he ho hc hi hb fun v a w hE hd hf => by rw [ha, show (#[x, y, z] : Array Operand).map a.eval = #[a.eval x, a.eval y, a.eval z] by simp]; exact h _ _ _ w hE (hx.out v a w hE hd hf) (hy.out v a w hE hd hf) (hz.out v a w hE hd hf)
theorem cv1 {f : FuncId} {c : Call} {t x : Operand} {caps : List Value} {Φ Χ : Value → World → Prop} (he : ∀ args w, (callFunc f args).run P w = .ok (.enter f args) w) (ht : Od ops ds a0 w0 L i t (IsV (.func (.func f) #[] caps.toArray))) (hx : Od ops ds a0 w0 L i x Φ) (h : ∀ u w, Ext w0 w → Φ u w → Calls P f (u :: caps).toArray w (Ret w Χ))
  (ho : o.op = .call c := by rfl) (hc : c.callee = .value t := by rfl) (ha : c.args = #[x] := by rfl) (hi : L.getD i (fun _ _ => True) = Χ := by kernel_rfl) (hb : boxes.contains i = false := by kernel_rfl) : Ok P ops Q ds a0 w0 L boxes i o :=
 clv ht he ho hc hi hb fun v a w hE hd hf => by rw [ha, show (#[x] : Array Operand).map a.eval ++ caps.toArray = (a.eval x :: caps).toArray by simp]; exact h _ w hE (hx.out v a w hE hd hf)
/-- A part of several results. -/
theorem ex {x : Operand} {n : Nat} {Φ Χ : Value → World → Prop} (hx : Od ops ds a0 w0 L i x Φ) (h : ∀ u w, Φ u w → ∃ vs : Array Value, u = .tuple vs ∧ ∃ y, vs[n]? = some y ∧ Χ y w) (ho : o.op = .extract x n := by rfl) (hi : L.getD i (fun _ _ => True) = Χ := by kernel_rfl) (hb : boxes.contains i = false := by kernel_rfl) : Ok P ops Q ds a0 w0 L boxes i o :=
 Ok.of hb fun v a w hE hd hf => by
  obtain ⟨vs, hu, y, hy, hχ⟩ := h _ _ (hx.out v a w hE hd hf)
  refine ⟨y, ?_, by rw [hi]; exact hχ⟩
  unfold execOp
  rw [ho]
  dsimp only
  rw [hu]
  simp [Instr.extract, hy]
theorem t20 {Φ Ψ : Value → World → Prop} (u : Value) (w : World) (h : IsT2 Φ Ψ u w) : ∃ vs : Array Value, u = .tuple vs ∧ ∃ y, vs[0]? = some y ∧ Φ y w := let ⟨_, _, h1, h2, _⟩ := h; ⟨_, h1, _, rfl, h2⟩
theorem t21 {Φ Ψ : Value → World → Prop} (u : Value) (w : World) (h : IsT2 Φ Ψ u w) : ∃ vs : Array Value, u = .tuple vs ∧ ∃ y, vs[1]? = some y ∧ Ψ y w := let ⟨_, _, h1, _, h2⟩ := h; ⟨_, h1, _, rfl, h2⟩
theorem t30 {Φ Ψ Χ : Value → World → Prop} (u : Value) (w : World) (h : IsT3 Φ Ψ Χ u w) : ∃ vs : Array Value, u = .tuple vs ∧ ∃ y, vs[0]? = some y ∧ Φ y w := let ⟨_, _, _, h1, h2, _, _⟩ := h; ⟨_, h1, _, rfl, h2⟩
theorem t31 {Φ Ψ Χ : Value → World → Prop} (u : Value) (w : World) (h : IsT3 Φ Ψ Χ u w) : ∃ vs : Array Value, u = .tuple vs ∧ ∃ y, vs[1]? = some y ∧ Ψ y w := let ⟨_, _, _, h1, _, h2, _⟩ := h; ⟨_, h1, _, rfl, h2⟩
theorem t32 {Φ Ψ Χ : Value → World → Prop} (u : Value) (w : World) (h : IsT3 Φ Ψ Χ u w) : ∃ vs : Array Value, u = .tuple vs ∧ ∃ y, vs[2]? = some y ∧ Χ y w := let ⟨_, _, _, h1, _, _, h2⟩ := h; ⟨_, h1, _, rfl, h2⟩
/-- Two values in, one out: sums, comparisons. -/
theorem bn {x y : Operand} {b : BinOp} {T T2 : Nat} {p q r : Value} (hx : Od ops ds a0 w0 L i x (IsV p)) (hy : Od ops ds a0 w0 L i y (IsV q)) (ho : o.op = .binOp b T x y T2 := by rfl) (hr : ∀ w, Sem.run P (do eqGuard b T x y p q; binOp b T p q) w = .ok r w) (hi : L.getD i (fun _ _ => True) = IsV r := by kernel_rfl) (hb : boxes.contains i = false := by kernel_rfl) : Ok P ops Q ds a0 w0 L boxes i o :=
 Ok.of hb fun v a w hE hd hf => by
  have h1 : a.eval x = p := hx.out v a w hE hd hf
  have h2 : a.eval y = q := hy.out v a w hE hd hf
  refine ⟨r, ?_, by rw [hi]; exact rfl⟩
  have := hr w
  unfold execOp
  rw [ho]
  dsimp only
  rw [h1, h2]
  cases hg : Sem.run P (eqGuard b T x y p q) w with
  | ok u w1 => simp [hg] at this ⊢; rw [this]; simp
  | halt e w1 => simp [hg] at this
theorem pk {c x y z : Operand} {b : Bool} (hc : Od ops ds a0 w0 L i c (IsV (.bool b))) (hx : Od ops ds a0 w0 L i z (L.getD i (fun _ _ => True))) (ho : o.op = .pick c x y := by rfl) (hz : (bif b then x else y) = z := by rfl) (hb : boxes.contains i = false := by kernel_rfl) : Ok P ops Q ds a0 w0 L boxes i o :=
 Ok.of hb fun v a w hE hd hf => by
  have h1 : a.eval c = .bool b := hc.out v a w hE hd hf
  have h2 := hx.out v a w hE hd hf
  refine ⟨a.eval z, ?_, h2⟩
  subst hz
  unfold execOp
  rw [ho]
  dsimp only
  rw [h1]
  cases b <;> simp [asBool]
theorem nt {x : Operand} {T : Nat} {b : Bool} (hx : Od ops ds a0 w0 L i x (IsV (.bool b))) (ho : o.op = .unOp .not T x := by rfl) (hi : L.getD i (fun _ _ => True) = IsV (.bool !b) := by kernel_rfl) (hb : boxes.contains i = false := by kernel_rfl) : Ok P ops Q ds a0 w0 L boxes i o :=
 Ok.of hb fun v a w hE hd hf => by
  have h1 : a.eval x = .bool b := hx.out v a w hE hd hf
  refine ⟨.bool !b, ?_, by rw [hi]; exact rfl⟩
  unfold execOp
  rw [ho]
  dsimp only
  rw [h1]
  simp [Op.unary]
/-- New boxes. -/
def AlO (P : Program) (T : TypeId) (m : Nat) : Prop := ∀ w0 w : World, w0.heap.size ≤ w.heap.size → ∃ w', (Instr.alloc T true (.tuple #[])).run P w = .ok (.pointer (some ⟨w.heap.size, 0, none⟩)) w' ∧ Ext w w' ∧ IsBo w0 m (.pointer (some ⟨w.heap.size, 0, none⟩)) w'
theorem al {T m : Nat} (hr : AlO P T m) (ho : o.op = .alloc T := by rfl) (hi : L.getD i (fun _ _ => True) = IsBo w0 m := by kernel_rfl) : Ok P ops Q ds a0 w0 L boxes i o :=
 ⟨fun v a w hE hd hf K hK => by
  obtain ⟨w', h1, h2, h3⟩ := hr w0 w hE.size
  have hrun : (execOp a.eval o).run P w = .ok (.value (.pointer (some ⟨w.heap.size, 0, none⟩))) w' := by
   unfold execOp
   rw [ho]
   dsimp only
   simp [h1]
  unfold Oper.wp
  rw [hrun]
  exact hK.out _ w' h2 (by rw [hi]; exact h3) FreshIf.yes⟩
/-- Values of two parts. -/
def BdQ (P : Program) (T : TypeId) : Prop := ∀ (w : World) (s : Bool) (a : Option Addr) (n c : Nat) (s' : Bool) (a' : Option Addr) (n' c' : Nat), (Instr.build T #[(0, .agg #[.bool s, .slice a n c]), (1, .agg #[.bool s', .slice a' n' c'])]).run P w = .ok (.agg #[.bool s, .slice a n c, .bool s', .slice a' n' c']) w
theorem bd_run {x y : Operand} {T : Nat} {a : Act} {p q u : Value} {w : World} (ho : o.op = .build T #[(0, x), (1, y)]) (h : a.eval x = p) (h' : a.eval y = q) (hr : (Instr.build T #[(0, p), (1, q)]).run P w = .ok u w) : (execOp a.eval o).run P w = .ok (.value u) w := by
 unfold execOp
 rw [ho]
 dsimp only
 simp only [List.map_toArray, List.map_cons, List.map_nil]
 rw [h, h']
 simp [hr]
theorem bq {x y : Operand} {T k1 k2 : Nat} {z1 z2 : Int} (hx : Od ops ds a0 w0 L i x (IsI k1 z1)) (hy : Od ops ds a0 w0 L i y (IsI k2 z2)) (hT : BdQ P T) (ho : o.op = .build T #[(0, x), (1, y)] := by rfl)
  (hi : L.getD i (fun _ _ => True) = IsQ (IsI k1 z1) (IsI k2 z2) := by kernel_rfl) (hb : boxes.contains i = false := by kernel_rfl) : Ok P ops Q ds a0 w0 L boxes i o :=
 Ok.of hb fun v a w hE hd hf => by
  obtain ⟨s, a1, n, c, e1, h1⟩ := hx.out v a w hE hd hf
  obtain ⟨s', a1', n', c', e2, h2⟩ := hy.out v a w hE hd hf
  exact ⟨_, bd_run ho e1 e2 (hT w _ _ _ _ _ _ _ _), by rw [hi]; exact ⟨_, _, _, _, _, _, _, _, rfl, ⟨_, _, _, _, rfl, h1⟩, ⟨_, _, _, _, rfl, h2⟩⟩⟩
theorem b0 {T : Nat} {z : Value} {Φ : Value → World → Prop} (hr : ∀ w, (Instr.build T #[]).run P w = .ok z w) (hz : ∀ w, Φ z w) (ho : o.op = .build T #[] := by rfl) (hi : L.getD i (fun _ _ => True) = Φ := by kernel_rfl) (hb : boxes.contains i = false := by kernel_rfl) : Ok P ops Q ds a0 w0 L boxes i o :=
 Ok.of hb fun v a w hE hd hf => by
  refine ⟨z, ?_, by rw [hi]; exact hz w⟩
  have := hr w
  unfold execOp
  rw [ho]
  dsimp only
  simp [this]

/-- Stores. -/
def StI (P : Program) (T : TypeId) : Prop := ∀ (w : World) (b f : Nat) (s0 : Bool) (a0 : Option Addr) (n0 c0 : Nat) (s : Bool) (a : Option Addr) (n c : Nat), w.cell? ⟨b, f, none⟩ = some (.bool s0) → w.cell? ⟨b, f + 1, none⟩ = some (.slice a0 n0 c0) → w.frozen? ⟨b, f, none⟩ = false → w.frozen? ⟨b, f + 1, none⟩ = false →
 (Instr.storeAt T (.pointer (some ⟨b, f, none⟩)) (.agg #[.bool s, .slice a n c])).run P w = .ok () ((w.setCell ⟨b, f, none⟩ (.bool s)).setCell ⟨b, f + 1, none⟩ (.slice a n c))
def StQ (P : Program) (T : TypeId) : Prop := ∀ (w : World) (b f : Nat) (s0 : Bool) (a0 : Option Addr) (n0 c0 : Nat) (s1 : Bool) (a1 : Option Addr) (n1 c1 : Nat) (s : Bool) (a : Option Addr) (n c : Nat) (s' : Bool) (a' : Option Addr) (n' c' : Nat),
 w.cell? ⟨b, f, none⟩ = some (.bool s0) → w.cell? ⟨b, f + 1, none⟩ = some (.slice a0 n0 c0) → w.frozen? ⟨b, f, none⟩ = false → w.frozen? ⟨b, f + 1, none⟩ = false → w.cell? ⟨b, f + 2, none⟩ = some (.bool s1) → w.cell? ⟨b, f + 3, none⟩ = some (.slice a1 n1 c1) → w.frozen? ⟨b, f + 2, none⟩ = false → w.frozen? ⟨b, f + 3, none⟩ = false →
 (Instr.storeAt T (.pointer (some ⟨b, f, none⟩)) (.agg #[.bool s, .slice a n c, .bool s', .slice a' n' c'])).run P w = .ok () ((((w.setCell ⟨b, f, none⟩ (.bool s)).setCell ⟨b, f + 1, none⟩ (.slice a n c)).setCell ⟨b, f + 2, none⟩ (.bool s')).setCell ⟨b, f + 3, none⟩ (.slice a' n' c'))
theorem st_wp {x y : Operand} {T : Nat} {a : Act} {p u : Value} {w w' : World} {K : Act → World → Prop} (ho : o.op = .store T x y) (h : a.eval x = p) (h' : a.eval y = u) (hr : (Instr.storeAt T p u).run P w = .ok () w') (hK : K (a.put o.dst undef) w') : Oper.wp P o a w K Q := by
 have : (execOp a.eval o).run P w = .ok .skip w' := by
  unfold execOp
  rw [ho]
  dsimp only
  rw [h, h']
  simp [hr]
 unfold Oper.wp
 rw [this]
 exact hK
theorem stI {w W : World} {B : List Fld} {a : Act} {K : Act → World → Prop} (S : Sto w W B) (j g q : Nat) {T k : Nat} {z : Int} {x y : Operand} {Φ : Value → World → Prop} {u : Value} (hu : IsI k z u W) (hT : StI P T) (h : ∀ W', Sto w W' (B.set j ((g, q), IsI k z)) → Gr W W' → K a W')
  (hB : B[j]? = some ((g, q), Φ)) (ho : o.op = .store T x y := by rfl) (hd : o.dst = none := by rfl) (hx : a.eval x = .pointer (some ⟨g, 2 * q, none⟩) := by kernel_rfl) (hy : a.eval y = u := by kernel_rfl) : Oper.wp P o a W K Q := by
 obtain ⟨s, a1, n, c, rfl, h1⟩ := hu
 obtain ⟨s0, a2, n0, c0, b, _⟩ := S.at j g q Φ hB
 obtain ⟨W', hW, S', G⟩ := S.put j g q Φ (IsI k z) hB s a1 n c (IsI.gstb _ _) ⟨_, _, _, _, rfl, h1⟩
 refine st_wp ho hx hy (hT W g (2 * q) _ _ _ _ _ _ _ _ b.c0 b.c1 b.f0 b.f1) ?_
 rw [← hW, hd]
 exact h W' S' G
theorem stQ {w W : World} {B : List Fld} {a : Act} {K : Act → World → Prop} (S : Sto w W B) (j j2 g q : Nat) {T : Nat} {x y : Operand} {Φ Ψ Φ' Ψ' : Value → World → Prop} {u : Value} (hu : IsQ Φ' Ψ' u W) (g1 : GStb Φ') (g2 : GStb Ψ') (hT : StQ P T)
  (h : ∀ W', Sto w W' ((B.set j ((g, q), Φ')).set j2 ((g, q + 1), Ψ')) → Gr W W' → K a W')
  (hB : B[j]? = some ((g, q), Φ)) (hB2 : B[j2]? = some ((g, q + 1), Ψ)) (hj : (j == j2) = false := by rfl) (ho : o.op = .store T x y := by rfl) (hd : o.dst = none := by rfl) (hx : a.eval x = .pointer (some ⟨g, 2 * q, none⟩) := by kernel_rfl) (hy : a.eval y = u := by kernel_rfl) : Oper.wp P o a W K Q := by
 obtain ⟨s, a1, n, c, s', a1', n', c', rfl, h1, h2⟩ := hu
 have hj : j ≠ j2 := by simpa using hj
 obtain ⟨s0, a2, n0, c0, b, _⟩ := S.at j g q Φ hB
 obtain ⟨s2, a3, n2, c2, b2, _⟩ := S.at j2 g (q + 1) Ψ hB2
 obtain ⟨W', hW, S', G⟩ := S.put j g q Φ Φ' hB s a1 n c g1 h1
 obtain ⟨W2, hW2, S2, G2⟩ := S'.put j2 g (q + 1) Ψ Ψ' (by rw [List.getElem?_set_ne hj]; exact hB2) s' a1' n' c' g2 (g2 _ _ _ G h2)
 refine st_wp ho hx hy (hT W g (2 * q) _ _ _ _ _ _ _ _ _ _ _ _ _ _ _ _ b.c0 b.c1 b.f0 b.f1 b2.c0 b2.c1 b2.f0 b2.f1) ?_
 rw [← hW, hd]
 have := h W2 S2 (G.trans G2)
 rw [hW2] at this
 exact this
/-- The rules with their side conditions found by themselves. -/
def AllBox (L : List (Value → World → Prop)) : List Nat → Prop
 | [] => True
 | b :: bs => IsBox (L.getD b (fun _ _ => True)) ∧ AllBox L bs
theorem AllBox.get {L : List (Value → World → Prop)} : ∀ {bs : List Nat}, AllBox L bs → ∀ i ∈ bs, IsBox (L.getD i (fun _ _ => True))
 | [], _, _, h => by cases h
 | b :: bs, h, i, hi => by
  rcases List.mem_cons.1 hi with rfl | hi
  ·exact h.1
  ·exact AllBox.get h.2 i hi
theorem rg (n : Nat) (ds : List (Option Tmp)) (L : List (Value → World → Prop)) (boxes : List Nat) (fuel : Nat) {id : Nat}
  (hop : RgAll P .any ops Q ds a0 w0 L boxes 0 n ops.toList)
  (hend : ∀ v w, Ext w0 w → (∀ i, i < n → L.getD i (fun _ _ => True) (v i) w) → (∀ i j, i ∈ boxes → j ∈ boxes → i < n → j < n → i ≠ j → v i ≠ v j) →
   wpAny P .any ops Q fuel (firstN ops.size n) (layL v a0 0 ds) w)
  (hm : P.follows .mixedOrders = true := by kernel_rfl) (hn : n ≤ ops.size := by decide) (hf : ops.size - n = fuel := by kernel_rfl) (hds : (List.range n).map (dstOf ops) = ds := by kernel_rfl) (hap : dstsApart ops n = true := by kernel_rfl) (htp : twoParts .any ops n [] = true := by kernel_rfl) (hns : Region.noSelect ops = true := by kernel_rfl)
  (hst : AllStb L := by repeat' (first | exact trivial | exact IsV.stb _ | exact IsW.stb _ | exact IsI.stb _ _ | exact IsBo.stb _ _ | exact IsR.stb _ _ | exact IsMag.stb _ _ | exact IsPos.stb | apply IsJ.stb | apply IsQ.stb | apply IsT3.stb | apply IsT2.stb | apply And.intro)) (hbx : AllBox L boxes := by repeat' (first | exact trivial | exact IsBo.box _ _ | apply And.intro)) :
  (Code.region id ops true).wp P Q a0 w0 := wp_region_rg n ds L boxes fuel hm hn hf hds hap htp hns hst hbx.get hop hend
theorem rgs (n : Nat) (ds : List (Option Tmp)) (L : List (Value → World → Prop)) (boxes : List Nat) {id : Nat}
  (hop : RgAll P .any ops Q ds a0 w0 L boxes 0 n ops.toList)
  (hend : ∀ v w, Ext w0 w → (∀ i, i < n → L.getD i (fun _ _ => True) (v i) w) → (∀ i j, i ∈ boxes → j ∈ boxes → i < n → j < n → i ≠ j → v i ≠ v j) →
   wpList P ops Q (ops.toList.drop n) (layL v a0 0 ds) w)
  (hn : n ≤ ops.size := by decide) (hds : (List.range n).map (dstOf ops) = ds := by kernel_rfl) (hap : dstsApart ops n = true := by kernel_rfl) (htp : backOk ops n = true := by kernel_rfl)
  (hst : AllStb L := by repeat' (first | exact trivial | exact IsV.stb _ | exact IsW.stb _ | exact IsI.stb _ _ | exact IsBo.stb _ _ | exact IsR.stb _ _ | exact IsMag.stb _ _ | exact IsPos.stb | apply IsJ.stb | apply IsQ.stb | apply IsT3.stb | apply IsT2.stb | apply And.intro)) (hbx : AllBox L boxes := by repeat' (first | exact trivial | exact IsBo.box _ _ | apply And.intro)) :
  (Code.region id ops false).wp P Q a0 w0 := wp_region_rgs n ds L boxes hn hds hap htp hst hbx.get hop hend
theorem rgO (n : Nat) (opt : List Nat) (ds : List (Option Tmp)) (L : List (Value → World → Prop)) (boxes : List Nat) (fuel : Nat) {id : Nat}
  (hY : ∀ i ∈ opt, ∀ (v : Nat → Value) (w : World), Ext w0 w → (∀ j, (ups .any ops i).contains j = true → L.getD j (fun _ _ => True) (v j) w) → ∃ x o, ops[i]? = some o ∧ Yields P ops o x (layL v a0 0 ds) ∧ L.getD i (fun _ _ => True) x w)
  (hop : RgAll P .any ops (NoPanic Q) ds a0 w0 L boxes 0 n ops.toList)
  (hend : ∀ v w, Ext w0 w → (∀ i, i < n → L.getD i (fun _ _ => True) (v i) w) → (∀ i j, i ∈ boxes → j ∈ boxes → i < n → j < n → i ≠ j → v i ≠ v j) →
   wpAny P .any ops (NoPanic Q) fuel (firstN ops.size n) (layL v a0 0 ds) w)
  (hm : P.follows .mixedOrders = true := by kernel_rfl) (hn : n ≤ ops.size := by decide) (hf : ops.size - n = fuel := by kernel_rfl) (hds : (List.range n).map (dstOf ops) = ds := by kernel_rfl) (hap : dstsApart ops n = true := by kernel_rfl) (htp : twoParts .any ops n opt = true := by kernel_rfl) (hoo : optOk .any ops n opt = true := by kernel_rfl) (hob : opt.all (fun i => !boxes.contains i) = true := by kernel_rfl)
  (hst : AllStb L := by repeat' (first | exact trivial | exact IsV.stb _ | exact IsW.stb _ | exact IsI.stb _ _ | exact IsBo.stb _ _ | exact IsR.stb _ _ | exact IsMag.stb _ _ | exact IsPos.stb | apply IsJ.stb | apply IsQ.stb | apply IsT3.stb | apply IsT2.stb | apply And.intro)) (hbx : AllBox L boxes := by repeat' (first | exact trivial | exact IsBo.box _ _ | apply And.intro)) :
  (Code.region id ops true).wp P Q a0 w0 := wp_region_rgO n opt ds L boxes fuel hm hn hf hds hap htp hoo hob hst hbx.get hY hop hend
/-- A store, the next of the second part. -/
theorem stA {fuel : Nat} {listed : Array Bool} {a : Act} {w : World} (j : Nat) (ho : ops[j]? = some o := by rfl) (h : ∀ K : Act → World → Prop, (∀ a w, wpAny P .any ops Q fuel (listed.setIfInBounds j true) a w → K a w) → Oper.wp P o a w K Q)
  (hr : Region.ready .any ops listed = [j] := by kernel_rfl) (hg : o.guard = none := by rfl) : wpAny P .any ops Q (fuel + 1) listed a w :=
 wpAny_ready (rs := [j]) hr (by simp) (AllReady.cons ho (fun K hK => by rw [if_pos (by simp [Region.wanted, hg])]; exact h K hK) AllReady.nil)
theorem stL {a : Act} {w : World} (h : ∀ K : Act → World → Prop, (∀ a w, wpList P ops Q os a w → K a w) → Oper.wp P o a w K Q) (hg : o.guard = none := by rfl) : wpList P ops Q (o :: os) a w := wpList_plain hg h

end

/-! ### This program's types -/
set_option maxRecDepth 100000
theorem ld_Int : LdI Tryz.prog 28 := fun w b f s a n c h0 h1 => by go_simp
theorem ld_Rat : LdQ Tryz.prog 45 := fun w b f s a n c s' a' n' c' h0 h1 h2 h3 => by go_simp
theorem st_Int : StI Tryz.prog 28 := fun w b f s0 a0 n0 c0 s a n c h0 h1 f0 f1 => by go_simp
theorem st_Rat : StQ Tryz.prog 45 := fun w b f s0 a0 n0 c0 s1 a1 n1 c1 s a n c s' a' n' c' h0 h1 f0 f1 h2 h3 f2 f3 => by go_simp
theorem bd_Rat : BdQ Tryz.prog 45 := fun w s a n c s' a' n' c' => by go_simp
theorem al_Int : AlO Tryz.prog 28 1 := fun w0 w h => ⟨_, by go_simp, (Ext.refl _).alloc _, IsBo.new1 w0 w 28 h⟩
theorem al_Rat : AlO Tryz.prog 45 2 := fun w0 w h => ⟨_, by go_simp, (Ext.refl _).alloc _, IsBo.new2 w0 w 45 h⟩
theorem fa_Rat0 (g f : Nat) (w : World) : (Instr.fieldAt 45 (.pointer (some ⟨g, f, none⟩)) 0).run Tryz.prog w = .ok (.pointer (some ⟨g, f, none⟩)) w := by go_simp
theorem fa_Rat1 (g f : Nat) (w : World) : (Instr.fieldAt 45 (.pointer (some ⟨g, f, none⟩)) 1).run Tryz.prog w = .ok (.pointer (some ⟨g, f + 2, none⟩)) w := by go_simp
theorem fa_Iv0 (g f : Nat) (w : World) : (Instr.fieldAt 47 (.pointer (some ⟨g, f, none⟩)) 0).run Tryz.prog w = .ok (.pointer (some ⟨g, f, none⟩)) w := by go_simp
theorem fa_Iv1 (g f : Nat) (w : World) : (Instr.fieldAt 47 (.pointer (some ⟨g, f, none⟩)) 1).run Tryz.prog w = .ok (.pointer (some ⟨g, f + 4, none⟩)) w := by go_simp
theorem en {f : FuncId} {fn : Func} {c : Code} (hf : Tryz.prog.funcs[f]? = some fn) (hn : (fn.name == "runtime.NumGoroutine") = false := by kernel_rfl) (hb : fn.body = some c := by rfl) : ∀ args w, (callFunc f args).run Tryz.prog w = .ok (.enter f args) w := enters_of hf hn hb
end Go.Proofs.YtkeikfekkdplgaaGreatDoor
