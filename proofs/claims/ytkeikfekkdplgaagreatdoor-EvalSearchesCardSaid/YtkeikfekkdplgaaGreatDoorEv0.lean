/-
 The reference of package rational: Same, Of, Made. (Printed by wip/gen/rat3.py.)
 Rows that a call makes by append, of elements of any size: reading, keeping, and the append itself.
 Package eval, the ground: blocks of cells of any kind (Bk), known intervals (IsKn), stores into such blocks, loads out of them, calls that panic. No condition on the program.
-/
import Derived.Test.YtkeikfekkdplgaaGreatDoorQ2
import Derived.Maps.AppendAt
import Derived.RangeFuncBox
import Derived.Test.YtkeikfekkdplgaaGreatDoorBase
import Derived.Test.YtkeikfekkdplgaaGreatDoorRg
namespace Go.Proofs.YtkeikfekkdplgaaGreatDoor
open Go Go.RowKit

set_option maxRecDepth 100000 in
set_option maxHeartbeats 4000000 in
theorem rqSame_t {k1 k2 : Nat} {u1 v1 u2 v2 : Int} {x y : Value} {w : World} (hx : IsQ (IsI k1 u1) (IsI k1 v1) x w) (hy : IsQ (IsI k2 u2) (IsI k2 v2) y w) (l1 : k1 ≤ 1048576) (hu : u1 = u2) (hv : v1 = v2) : Calls Tryz.prog 19 #[x, y] w (Ret w (IsV (.bool true))) := by
 have HU := hid hu
 have HV := hid hv
 clear hu hv
 obtain ⟨s1x, a1x, n1x, c1x, s1y, a1y, n1y, c1y, rfl, h1x, h1y⟩ := hx
 obtain ⟨s2x, a2x, n2x, c2x, s2y, a2y, n2y, c2y, rfl, h2x, h2y⟩ := hy
 obtain ⟨W, hW, S⟩ : ∃ W, W = (w.alloc (.cells #[.bool s1x, .slice a1x n1x c1x, .bool s1y, .slice a1y n1y c1y] 45)).alloc (.cells #[.bool s2x, .slice a2x n2x c2x, .bool s2y, .slice a2y n2y c2y] 45) ∧ Sto w W [((w.heap.size + 1, 1), IsI k2 v2), ((w.heap.size + 1, 0), IsI k2 u2), ((w.heap.size, 1), IsI k1 v1), ((w.heap.size, 0), IsI k1 u1)] := ⟨_, rfl, (((Sto.start w).new2 (w.heap.size) (by simp) s1x s1y a1x a1y n1x c1x n1y c1y 45 (IsI k1 u1) (IsI k1 v1) (IsI.gstb _ _) (h1x) (IsI.gstb _ _) (h1y)).new2 (w.heap.size + 1) (by simp) s2x s2y a2x a2y n2x c2x n2y c2y 45 (IsI k2 u2) (IsI k2 v2) (IsI.gstb _ _) (h2x.ext ((Ext.refl _).alloc _)) (IsI.gstb _ _) (h2y.ext ((Ext.refl _).alloc _)))⟩
 clear h1x h1y h2x h2y
 go_enter Tryz.func19, Tryz.ntmps19
 go_upto_region 1 with (fail)
 rw [← hW]
 clear hW
 refine rgs 13 [some 5, some 6, some 7, some 8, some 9, some 10, some 11, some 12, some 13, some 14, some 15, some 16, some 4] [IsV (.pointer (some ⟨w.heap.size, 0, none⟩)), IsI k1 u1, IsV (.pointer (some ⟨w.heap.size + 1, 0, none⟩)), IsI k2 u2, IsV (.bool true), IsV (.bool true), IsV (.pointer (some ⟨w.heap.size, 2, none⟩)), IsI k1 v1, IsV (.pointer (some ⟨w.heap.size + 1, 2, none⟩)), IsI k2 v2, IsV (.bool true), IsV (.bool true), IsV (.bool true)] [] ?_ ?_
 ·refine Rc (fa (fa_Rat0 (w.heap.size) 0) (Od.lit 2)) ?_
  refine Rc (ldI S 3 (w.heap.size) 0 (Od.lc 0 5) ld_Int) ?_
  refine Rc (fa (fa_Rat0 (w.heap.size + 1) 0) (Od.lit 3)) ?_
  refine Rc (ldI S 1 (w.heap.size + 1) 0 (Od.lc 2 7) ld_Int) ?_
  refine Rc (cl2 (en Tryz.func39) (Od.lc (Φ := IsI k1 u1) 1 6) (Od.lc (Φ := IsI k2 u2) 3 8) (fun x0 x1 w' hE d0 d1 => Same_t d0 d1 HU.out (by omega))) ?_
  refine Rc (mv (Od.lc 4 9)) ?_
  refine RcG 5 10 true (fa (fa_Rat1 (w.heap.size) 0) (Od.lit 2)) ?_
  refine RcG 5 10 true (ldI S 2 (w.heap.size) 1 (Od.lc 6 11) ld_Int) ?_
  refine RcG 5 10 true (fa (fa_Rat1 (w.heap.size + 1) 0) (Od.lit 3)) ?_
  refine RcG 5 10 true (ldI S 0 (w.heap.size + 1) 1 (Od.lc 8 13) ld_Int) ?_
  refine RcG 5 10 true (cl2 (en Tryz.func39) (Od.lc (Φ := IsI k1 v1) 7 12) (Od.lc (Φ := IsI k2 v2) 9 14) (fun x0 x1 w' hE d0 d1 => Same_t d0 d1 HV.out (by omega))) ?_
  refine Rc (pk (Od.loc 5 10) (Od.lc 10 15)) ?_
  refine Rc (mv (Od.lc 11 16)) ?_
  exact RgAll.nil
 intro v W1 e1 hΦ _
 replace S := S.mono e1
 have v12 : v 12 = .bool true := hΦ 12 (by decide)
 simp only [layL, Act.put, uAx, u0x, u1x, Nat.reduceAdd]
 rw [v12]
 clear v12 hΦ e1
 refine wpList_nil ?_
 go_wp2_with fail
 exact bodyPost_ret (v := .bool true) (by simp [results, Tryz.results19, go_sem]) rfl (⟨_, rfl, S.ext, rfl⟩)

theorem rqSame_eq {k1 k2 : Nat} {p q : Rat} {x y : Value} {w : World} (hx : IsRat k1 p x w) (hy : IsRat k2 q y w) (l1 : k1 ≤ 1048576) (h : p = q) : Calls Tryz.prog 19 #[x, y] w (Ret w (IsV (.bool true))) :=
 rqSame_t hx hy l1 (by rw [h]) (by rw [h])
set_option maxRecDepth 100000 in
set_option maxHeartbeats 4000000 in
theorem rqOf_f (w : World) (n d : Int) (hn : -9223372036854775808 ≤ n ∧ n ≤ 9223372036854775807) (hd : -9223372036854775808 ≤ d ∧ d ≤ 9223372036854775807) (hz : d ≠ 0) : Calls Tryz.prog 47 #[.int .i64 n, .int .i64 d] w (Ret w (IsRat 2 (Rat.divInt n d))) := by
 have HN := hid hn
 have HD := hid hd
 have HZ := hid hz
 clear hn hd hz
 obtain ⟨W, hW, S⟩ : ∃ W, W = w.alloc (.cells #[.bool false, .slice none 0 0, .bool false, .slice none 0 0] 45) ∧ Sto w W [((w.heap.size, 1), IsI 0 0), ((w.heap.size, 0), IsI 0 0)] := ⟨_, rfl, ((Sto.start w).new2 (w.heap.size) (by simp) false false none none 0 0 0 0 45 (IsI 0 0) (IsI 0 0) (IsI.gstb _ _) (IsI.nil _ _) (IsI.gstb _ _) (IsI.nil _ _))⟩
 go_enter Tryz.func47, Tryz.ntmps47
 go_upto_region 1 with (fail)
 rw [← hW]
 clear hW
 refine rgs 5 [some 5, some 6, some 7, some 8, some 9] [IsV (.int .i64 n), IsI 2 n, IsV (.int .i64 d), IsI 2 d, IsQ (IsI (max 2 2) ((Rat.divInt n d).num)) (IsI (max 2 2) (((Rat.divInt n d).den : Int)))] [] ?_ ?_
 ·refine Rc (mv (Od.lit 0)) ?_
  refine Rc (cl1 (en Tryz.func26) (Od.lc (Φ := IsV (.int .i64 n)) 0 5) (fun x0 w' hE d0 => by { obtain rfl : x0 = .int .i64 n := d0; exact ROf_f _ n HN.out.1 HN.out.2 })) ?_
  refine Rc (mv (Od.lit 1)) ?_
  refine Rc (cl1 (en Tryz.func26) (Od.lc (Φ := IsV (.int .i64 d)) 2 7) (fun x0 w' hE d0 => by { obtain rfl : x0 = .int .i64 d := d0; exact ROf_f _ d HD.out.1 HD.out.2 })) ?_
  refine Rc (cl2 (en Tryz.func65) (Od.lc (Φ := IsI 2 n) 1 6) (Od.lc (Φ := IsI 2 d) 3 8) (fun x0 x1 w' hE d0 d1 => rqover_f d0 d1 (by decide) (by decide) HZ.out)) ?_
  exact RgAll.nil
 intro v W1 e1 hΦ _
 replace S := S.mono e1
 have h9 := hΦ 4 (by decide)
 simp only [layL, Act.put, uAx, u0x, u1x, Nat.reduceAdd]
 clear hΦ e1
 try simp only [List.drop_succ_cons, List.drop_zero]
 (with_reducible refine stL ?_ (by rfl)); intro KK hKK; refine stQ S 1 0 (w.heap.size) 0 h9 (IsI.gstb _ _) (IsI.gstb _ _) st_Rat (fun W2 S2 G2 => hKK _ _ ?_) rfl rfl
 replace S := S2; clear S2 G2 hKK KK h9
 simp only [u0x, u1x] at S
 refine wpList_nil ?_
 go_wp2_with fail
 obtain ⟨s90x, a90x, n90x, c90x, b90x, h90x⟩ := S.at 1 (w.heap.size) 0 (IsI (max 2 2) ((Rat.divInt n d).num)) rfl; have L90xa : World.cell? W2 ⟨w.heap.size, 0, none⟩ = some (.bool s90x) := b90x.c0; have L90xb : World.cell? W2 ⟨w.heap.size, 1, none⟩ = some (.slice a90x n90x c90x) := b90x.c1
 obtain ⟨s90y, a90y, n90y, c90y, b90y, h90y⟩ := S.at 0 (w.heap.size) 1 (IsI (max 2 2) (((Rat.divInt n d).den : Int))) rfl; have L90ya : World.cell? W2 ⟨w.heap.size, 2, none⟩ = some (.bool s90y) := b90y.c0; have L90yb : World.cell? W2 ⟨w.heap.size, 3, none⟩ = some (.slice a90y n90y c90y) := b90y.c1
 exact bodyPost_ret (v := .agg #[.bool s90x, .slice a90x n90x c90x, .bool s90y, .slice a90y n90y c90y]) (by simp [results, Tryz.results47, go_sem, L90xa, L90xb, L90ya, L90yb]) rfl (⟨_, rfl, S.ext, ⟨_, _, _, _, _, _, _, _, rfl, h90x, h90y⟩⟩)

end Go.Proofs.YtkeikfekkdplgaaGreatDoor
namespace Go.Proofs.YtkeikfekkdplgaaGreatDoor
open Go Go.RowKit

/-- The cells of a row that was made since 'base': n elements of k cells. -/
def Rwg (e k base : Nat) (w : World) (v : Value) (n : Nat) (xs : List Value) : Prop := w.ownsRow base e k v n xs
/-- The shape of a row's slice. -/
theorem Rwg.shape {e k base n : Nat} {w : World} {v : Value} {xs : List Value} (h : Rwg e k base w v n xs) : ∃ ao cap, v = .slice ao n cap ∧ n ≤ cap ∧ cap ≤ 9223372036854775807 ∧ xs.length = n * k ∧
  (n ≠ 0 → ∃ g, ao = some ⟨g, 0, none⟩ ∧ base ≤ g ∧ g < w.heap.size ∧ ∀ j u, xs[j]? = some u → w.cell? ⟨g, j, none⟩ = some u) := by
 obtain ⟨h1, ⟨h2, h3⟩ | ⟨g, cap, cur, hv, hb, hg, hn, hc, hsz, ht⟩⟩ := h
 ·subst h3
  exact ⟨none, 0, h2, Nat.le_refl _, by decide, h1, fun h => absurd rfl h⟩
 ·refine ⟨_, cap, hv, hn, hc, h1, fun _ => ⟨g, rfl, hb, (Array.getElem?_eq_some_iff.1 hg).1, fun j u hj => ?_⟩⟩
  have hjl : j < xs.length := (List.getElem?_eq_some_iff.1 hj).1
  simp only [World.cell?]; rw [hg]
  show cur[j]? = some u
  rw [← ht, List.getElem?_take, if_pos (by omega)] at hj
  simpa using hj
theorem cells_new (w : World) (cs : Array Value) (t : Nat) : ∀ j u, cs.toList[j]? = some u → (w.alloc (.cells cs t)).cell? ⟨w.heap.size, j, none⟩ = some u := by
 intro j u hj
 simp only [World.cell?]
 have : (w.alloc (.cells cs t)).heap[w.heap.size]? = some (.cells cs t) := by show (w.heap.push _)[w.heap.size]? = _; simp
 rw [this]
 show cs[j]? = some u
 simpa using hj
/-- Cells of a block written one after the other. -/
def setL : World → Nat → Nat → List Value → World
 | W, _, _, [] => W
 | W, b, j, v :: vs => setL (W.setCell ⟨b, j, none⟩ v) b (j + 1) vs
theorem setL_other : ∀ (vs : List Value) (W : World) (b j : Nat) (p : Addr), (p.block ≠ b ∨ (p = ⟨b, p.off, none⟩ ∧ p.off < j)) → World.cell? (setL W b j vs) p = World.cell? W p
 | [], _, _, _, _, _ => rfl
 | v :: vs, W, b, j, p, h => by
  unfold setL
  rw [setL_other vs _ b (j + 1) p (h.imp id fun ⟨h1, h2⟩ => ⟨h1, by omega⟩)]
  refine World.cell?_setCell_other _ _ _ _ ?_
  rintro rfl
  rcases h with h | ⟨_, h⟩
  ·exact h rfl
  ·exact Nat.lt_irrefl _ h
theorem setL_frozen : ∀ (vs : List Value) (W : World) (b j : Nat) (p : Addr), World.frozen? (setL W b j vs) p = World.frozen? W p
 | [], _, _, _, _ => rfl
 | v :: vs, W, b, j, p => by
  unfold setL
  rw [setL_frozen vs, World.frozen?_setCell]
theorem setL_cell : ∀ (vs : List Value) (W : World) (b j : Nat), (∀ i, i < vs.length → (World.cell? W ⟨b, j + i, none⟩).isSome) → ∀ (i : Nat) (v : Value), vs[i]? = some v → World.cell? (setL W b j vs) ⟨b, j + i, none⟩ = some v
 | [], _, _, _, _, i, v, h => by simp at h
 | u :: vs, W, b, j, hs, i, v, h => by
  unfold setL
  cases i with
  | zero =>
   simp at h
   subst h
   rw [setL_other vs _ b (j + 1) ⟨b, j + 0, none⟩ (.inr ⟨rfl, by simp⟩)]
   exact World.cell?_setCell_same' _ _ _ (hs 0 (by simp))
  | succ i =>
   simp at h
   have := setL_cell vs (W.setCell ⟨b, j, none⟩ u) b (j + 1) (fun k hk => ?_) i v h
   ·rw [show j + (i + 1) = j + 1 + i by omega]; exact this
   ·rw [World.cell?_setCell_other _ _ _ _ (by intro e; injection e with e1 e2; omega)]
    have := hs (k + 1) (by simp; omega)
    rwa [show j + (k + 1) = j + 1 + k by omega] at this
theorem setL_below : ∀ (vs : List Value) (W w : World) (b j base : Nat), Below base w W → base ≤ b → Below base w (setL W b j vs)
 | [], _, _, _, _, _, h, _ => h
 | v :: vs, W, w, b, j, base, h, hb => by
  unfold setL
  exact setL_below vs _ w b (j + 1) base (h.setCell (p := ⟨b, j, none⟩) hb v) hb
theorem setL_gr : ∀ (vs : List Value) (W : World) (b j : Nat), (∀ i, i < vs.length → ∃ u, World.cell? W ⟨b, j + i, none⟩ = some u ∧ NoWord u) → Gr W (setL W b j vs)
 | [], W, _, _, _ => Gr.refl W
 | v :: vs, W, b, j, h => by
  unfold setL
  obtain ⟨u, hu, hn⟩ := h 0 (by simp)
  refine ((Gr.refl W).set (p := ⟨b, j, none⟩) hu hn v).trans (setL_gr vs _ b (j + 1) fun i hi => ?_)
  obtain ⟨u, hu, hn⟩ := h (i + 1) (by simp; omega)
  refine ⟨u, ?_, hn⟩
  rw [World.cell?_setCell_other _ _ _ _ (by intro e; injection e with e1 e2; omega), show j + 1 + i = j + (i + 1) by omega]
  exact hu
end Go.Proofs.YtkeikfekkdplgaaGreatDoor
namespace Go.Proofs.YtkeikfekkdplgaaGreatDoor
open Go Go.RowKit

/-- A block of cells, none frozen. -/
structure Bk (W : World) (g : Nat) (vs : List Value) : Prop where
 c : ∀ j v, vs[j]? = some v → World.cell? W ⟨g, j, none⟩ = some v
 f : ∀ j, World.frozen? W ⟨g, j, none⟩ = false
 lt : g < W.heap.size
theorem Bk.ext {W W' : World} {g : Nat} {vs : List Value} (h : Bk W g vs) (E : Ext W W') : Bk W' g vs := ⟨fun j v hj => E.cell (h.c j v hj), fun j => (E.frozen (p := ⟨g, j, none⟩) h.lt).trans (h.f j), Nat.lt_of_lt_of_le h.lt E.size⟩
theorem Bk.new (w : World) (cs : Array Value) (T : TypeId) : Bk (w.alloc (.cells cs T)) w.heap.size cs.toList :=
 ⟨fun j v hj => cells_new w cs T j v hj, fun j => by simp, by simp⟩
theorem Bk.newE (w : World) (g : Nat) (hg : w.heap.size = g) (cs : Array Value) (T : TypeId) : Bk (w.alloc (.cells cs T)) g cs.toList := by subst hg; exact Bk.new w cs T
/-- A block's cells are written, from the first on. -/
theorem Bk.put {W w : World} {g : Nat} {vs us : List Value} (B : Bk W g vs) (hl : us.length = vs.length) (hn : ∀ v ∈ vs, NoWord v) (E : Ext w W) (hg : w.heap.size ≤ g) :
  ∃ W', setL W g 0 us = W' ∧ Bk W' g us ∧ Ext w W' ∧ Gr W W' ∧ (∀ g' vs', g' ≠ g → Bk W g' vs' → Bk W' g' vs') ∧ W'.heap.size = W.heap.size := by
 have hc : ∀ i, i < us.length → ∃ u, World.cell? W ⟨g, 0 + i, none⟩ = some u ∧ NoWord u := fun i hi => by
  have : i < vs.length := by omega
  rw [Nat.zero_add]
  exact ⟨vs[i], B.c i _ (List.getElem?_eq_getElem this), hn _ (List.getElem_mem this)⟩
 have hsz : (setL W g 0 us).heap.size = W.heap.size := by
  have : ∀ (us : List Value) (W : World) (j : Nat), (setL W g j us).heap.size = W.heap.size := by
   intro us
   induction us with
   | nil => intro W j; rfl
   | cons u us ih => intro W j; unfold setL; rw [ih]; simp [World.setCell]
  exact this us W 0
 refine ⟨_, rfl, ⟨fun j v hj => ?_, fun j => ?_, by rw [hsz]; exact B.lt⟩, setL_below us W w g 0 _ E hg, setL_gr us W g 0 hc, fun g' vs' hne B' => ⟨fun j v hj => ?_, fun j => ?_, by rw [hsz]; exact B'.lt⟩, hsz⟩
 ·have := setL_cell us W g 0 (fun i hi => by obtain ⟨u, hu, _⟩ := hc i hi; rw [hu]; rfl) j v hj
  rwa [Nat.zero_add] at this
 ·rw [setL_frozen]; exact B.f j
 ·rw [setL_other us W g 0 ⟨g', j, none⟩ (.inl hne)]; exact B'.c j v hj
 ·rw [setL_frozen]; exact B'.f j
/-- One cell is written. -/
theorem Bk.set1 {W w : World} {g : Nat} {vs : List Value} (B : Bk W g vs) (j : Nat) (hj : j < vs.length) (u : Value) (hn : NoWord (vs[j])) (E : Ext w W) (hg : w.heap.size ≤ g) :
  ∃ W', W.setCell ⟨g, j, none⟩ u = W' ∧ Bk W' g (vs.set j u) ∧ Ext w W' ∧ Gr W W' ∧ (∀ g' vs', g' ≠ g → Bk W g' vs' → Bk W' g' vs') ∧ W'.heap.size = W.heap.size := by
 have hc := B.c j _ (List.getElem?_eq_getElem hj)
 refine ⟨_, rfl, ⟨fun i v hi => ?_, fun i => ?_, by simp [World.setCell]; exact B.lt⟩, E.set (p := ⟨g, j, none⟩) hg u, (Gr.refl W).set hc hn u, fun g' vs' hne B' => ⟨fun i v hi => ?_, fun i => ?_, by simp [World.setCell]; exact B'.lt⟩, by simp [World.setCell]⟩
 ·by_cases hij : j = i
  ·subst hij
   rw [List.getElem?_set_self hj] at hi
   rw [World.cell?_setCell_same _ _ _ hc, hi]
  ·rw [List.getElem?_set_ne hij] at hi
   rw [World.cell?_setCell_other _ _ _ _ (by intro e; injection e with e1 e2; exact hij e2)]
   exact B.c i v hi
 ·rw [World.frozen?_setCell]; exact B.f i
 ·rw [World.cell?_setCell_other _ _ _ _ (by intro e; injection e with e1 e2; exact hne e1.symm)]; exact B'.c i v hi
 ·rw [World.frozen?_setCell]; exact B'.f i

/-- A known interval: five cells. -/
def IsKn (k : Nat) (lo hi : Int) (f : Bool) : Value → World → Prop := fun x w => ∃ s a n c s' a' n' c', x = .agg #[.bool s, .slice a n c, .bool s', .slice a' n' c', .bool f] ∧ IsI k lo (.agg #[.bool s, .slice a n c]) w ∧ IsI k hi (.agg #[.bool s', .slice a' n' c']) w
theorem IsKn.gstb (k : Nat) (lo hi : Int) (f : Bool) : GStb (IsKn k lo hi f) := fun _ _ _ e ⟨s, a, n, c, s', a', n', c', h1, h2, h3⟩ => ⟨s, a, n, c, s', a', n', c', h1, IsI.gstb _ _ _ _ _ e h2, IsI.gstb _ _ _ _ _ e h3⟩
theorem IsKn.stb (k : Nat) (lo hi : Int) (f : Bool) : Stb (IsKn k lo hi f) := fun _ _ _ e h => IsKn.gstb k lo hi f _ _ _ e.gr h
theorem IsKn.mono {k k' : Nat} {lo hi : Int} {f : Bool} {x : Value} {w : World} (h : IsKn k lo hi f x w) (hk : k ≤ k') : IsKn k' lo hi f x w :=
 let ⟨s, a, n, c, s', a', n', c', h1, h2, h3⟩ := h; ⟨s, a, n, c, s', a', n', c', h1, h2.mono hk, h3.mono hk⟩
theorem IsKn.tight {k k' : Nat} {lo hi : Int} {f : Bool} {x : Value} {w : World} (h : IsKn k lo hi f x w) (h1 : lo.natAbs < 4294967296 ^ k') (h2 : hi.natAbs < 4294967296 ^ k') : IsKn k' lo hi f x w :=
 let ⟨s, a, n, c, s', a', n', c', e, g1, g2⟩ := h; ⟨s, a, n, c, s', a', n', c', e, g1.tight h1, g2.tight h2⟩

section
variable {P : Program} {ops : Array Oper} {Q : Exit → Act → World → Prop} {ds : List (Option Tmp)} {a0 : Act} {w0 : World} {L : List (Value → World → Prop)} {boxes : List Nat} {i k : Nat} {o : Oper} {os : List Oper}
/-- A load whose outcome is known in all later worlds. -/
theorem lv {T : Nat} {x : Operand} {p : Value} (u : Value) {Φ : Value → World → Prop} (hr : ∀ w, Ext w0 w → (Instr.loadAt T p).run P w = .ok u w) (hx : Od ops ds a0 w0 L i x (IsV p)) (hΦ : ∀ w, Ext w0 w → Φ u w) (ho : o.op = .load T x := by rfl)
  (hi : L.getD i (fun _ _ => True) = Φ := by kernel_rfl) (hb : boxes.contains i = false := by kernel_rfl) : Ok P ops Q ds a0 w0 L boxes i o :=
 Ok.of hb fun v a w hE hd hf => ⟨u, ld_run ho (hx.out v a w hE hd hf) (hr w hE), by rw [hi]; exact hΦ w hE⟩
/-- An integer in a field. -/
theorem lvI (f : Nat) {T g : Nat} {x : Operand} {vs : List Value} {s : Bool} {a : Option Addr} {n c : Nat} {kz : Nat} {z : Int} (B : Bk w0 g vs) (hz : IsI kz z (.agg #[.bool s, .slice a n c]) w0) (hT : LdI P T) (hx : Od ops ds a0 w0 L i x (IsV (.pointer (some ⟨g, f, none⟩)))) (h0 : vs[f]? = some (.bool s) := by rfl) (h1 : vs[f + 1]? = some (.slice a n c) := by rfl) (ho : o.op = .load T x := by rfl)
  (hi : L.getD i (fun _ _ => True) = IsI kz z := by kernel_rfl) (hb : boxes.contains i = false := by kernel_rfl) : Ok P ops Q ds a0 w0 L boxes i o :=
 lv _ (fun w e => hT w g f s a n c ((B.ext e).c f _ h0) ((B.ext e).c (f + 1) _ h1)) hx (fun w e => hz.ext e) ho hi hb
/-- A whole block. -/
def LdV (P : Program) (T : TypeId) (m : Nat) : Prop := ∀ (w : World) (g : Nat) (vs : List Value), vs.length = m → Bk w g vs → (Instr.loadAt T (.pointer (some ⟨g, 0, none⟩))).run P w = .ok (.agg vs.toArray) w
theorem lvV {T g m : Nat} {x : Operand} {vs : List Value} (B : Bk w0 g vs) (hT : LdV P T m) (hx : Od ops ds a0 w0 L i x (IsV (.pointer (some ⟨g, 0, none⟩)))) (hl : vs.length = m := by rfl) (ho : o.op = .load T x := by rfl)
  (hi : L.getD i (fun _ _ => True) = IsV (.agg vs.toArray) := by kernel_rfl) (hb : boxes.contains i = false := by kernel_rfl) : Ok P ops Q ds a0 w0 L boxes i o :=
 lv _ (fun w e => hT w g vs hl (B.ext e)) hx (fun _ _ => rfl) ho hi hb
/-- One cell. -/
def LdC1 (P : Program) (T : TypeId) : Prop := ∀ (w : World) (a : Addr) (v : Value), w.cell? a = some v → (Instr.loadAt T (.pointer (some a))).run P w = .ok v w
theorem lvC (f : Nat) {T g : Nat} {x : Operand} {vs : List Value} {u : Value} (B : Bk w0 g vs) (hT : LdC1 P T) (hx : Od ops ds a0 w0 L i x (IsV (.pointer (some ⟨g, f, none⟩)))) (h0 : vs[f]? = some u := by rfl) (ho : o.op = .load T x := by rfl)
  (hi : L.getD i (fun _ _ => True) = IsV u := by kernel_rfl) (hb : boxes.contains i = false := by kernel_rfl) : Ok P ops Q ds a0 w0 L boxes i o :=
 lv _ (fun w e => hT w _ u ((B.ext e).c f _ h0)) hx (fun _ _ => rfl) ho hi hb
theorem layL_defers (v : Nat → Value) : ∀ (ds : List (Option Tmp)) (a : Act) (k : Nat), (layL v a k ds).defers = a.defers
 | [], _, _ => rfl
 | d :: ds, a, k => by
  unfold layL
  rw [layL_defers v ds]
  cases d <;> rfl
/-- A call that panics, whatever came ahead of it: there is nothing behind it. -/
theorem RcP {f : FuncId} {c : Call} {x : Operand} {Φ : Value → World → Prop} (he : ∀ args w, (callFunc f args).run P w = .ok (.enter f args) w) (hx : Od ops ds a0 w0 L i x Φ)
  (h : ∀ u w, Ext w0 w → Φ u w → Calls P f #[u] w fun e w' => ∃ ch, e = .panicked ch ∧ ∀ a : Act, a.defers = a0.defers → Q (.panic ch) a w')
  (hs : RgAll P .any ops Q ds a0 w0 L boxes (i + 1) k os)
  (ho : o.op = .call c := by rfl) (hc : c.callee = .value (.func f) := by rfl) (ha : c.args = #[x] := by rfl) (hg : o.guard = none := by rfl) : RgAll P .any ops Q ds a0 w0 L boxes i (k + 1) (o :: os) := by
 refine ⟨?_, hs⟩
 intro v w hE hd K hK
 rw [if_pos (by simp [Region.wanted, hg])]
 have hf := Fr.of ds a0 v
 have hr : (execOp (layL v a0 0 ds).eval o).run P w = .ok (.enter f (c.args.map (layL v a0 0 ds).eval)) w := by
  unfold execOp
  rw [ho]
  dsimp only
  unfold resolve
  rw [hc]
  simp [invoke, he, Deferred.ofValue, show (layL v a0 0 ds).eval (.func f) = .func (.func f) #[] #[] from rfl]
 unfold Oper.wp
 rw [hr, Oper.upon_enter, ha, show (#[x] : Array Operand).map (layL v a0 0 ds).eval = #[(layL v a0 0 ds).eval x] by simp]
 refine Calls.mono (h _ w hE (hx.out v _ w hE hd hf)) ?_
 rintro e w2 ⟨ch, rfl, hq⟩
 exact hq _ (layL_defers v ds a0 0)
/-- Without the truth value it is false. -/
theorem bkn {x y : Operand} {T k1 : Nat} {z1 z2 : Int} (hx : Od ops ds a0 w0 L i x (IsI k1 z1)) (hy : Od ops ds a0 w0 L i y (IsI k1 z2))
  (hT : ∀ (w : World) (s : Bool) (b : Option Addr) (n c : Nat) (s' : Bool) (b' : Option Addr) (n' c' : Nat), (Instr.build T #[(0, .agg #[.bool s, .slice b n c]), (1, .agg #[.bool s', .slice b' n' c'])]).run P w = .ok (.agg #[.bool s, .slice b n c, .bool s', .slice b' n' c', .bool false]) w)
  (ho : o.op = .build T #[(0, x), (1, y)] := by rfl) (hi : L.getD i (fun _ _ => True) = IsKn k1 z1 z2 false := by kernel_rfl) (hb : boxes.contains i = false := by kernel_rfl) : Ok P ops Q ds a0 w0 L boxes i o :=
 Ok.of hb fun v a w hE hd hf => by
  obtain ⟨s, b, n, c, e1, h1⟩ := hx.out v a w hE hd hf
  obtain ⟨s', b', n', c', e2, h2⟩ := hy.out v a w hE hd hf
  exact ⟨_, bd_run ho e1 e2 (hT w _ _ _ _ _ _ _ _), by rw [hi]; exact ⟨_, _, _, _, _, _, _, _, rfl, ⟨_, _, _, _, rfl, h1⟩, ⟨_, _, _, _, rfl, h2⟩⟩⟩
theorem bd3_run {x y z : Operand} {T : Nat} {a : Act} {p q r u : Value} {w : World} (ho : o.op = .build T #[(0, x), (1, y), (2, z)]) (h : a.eval x = p) (h' : a.eval y = q) (h2 : a.eval z = r) (hr : (Instr.build T #[(0, p), (1, q), (2, r)]).run P w = .ok u w) : (execOp a.eval o).run P w = .ok (.value u) w := by
 unfold execOp
 rw [ho]
 dsimp only
 simp only [List.map_toArray, List.map_cons, List.map_nil]
 rw [h, h', h2]
 simp [hr]
theorem bkf {x y z : Operand} {T k1 : Nat} {z1 z2 : Int} {f : Bool} (hx : Od ops ds a0 w0 L i x (IsI k1 z1)) (hy : Od ops ds a0 w0 L i y (IsI k1 z2)) (hz : Od ops ds a0 w0 L i z (IsV (.bool f)))
  (hT : ∀ (w : World) (s : Bool) (b : Option Addr) (n c : Nat) (s' : Bool) (b' : Option Addr) (n' c' : Nat) (f : Bool), (Instr.build T #[(0, .agg #[.bool s, .slice b n c]), (1, .agg #[.bool s', .slice b' n' c']), (2, .bool f)]).run P w = .ok (.agg #[.bool s, .slice b n c, .bool s', .slice b' n' c', .bool f]) w)
  (ho : o.op = .build T #[(0, x), (1, y), (2, z)] := by rfl) (hi : L.getD i (fun _ _ => True) = IsKn k1 z1 z2 f := by kernel_rfl) (hb : boxes.contains i = false := by kernel_rfl) : Ok P ops Q ds a0 w0 L boxes i o :=
 Ok.of hb fun v a w hE hd hf => by
  obtain ⟨s, b, n, c, e1, h1⟩ := hx.out v a w hE hd hf
  obtain ⟨s', b', n', c', e2, h2⟩ := hy.out v a w hE hd hf
  exact ⟨_, bd3_run ho e1 e2 (hz.out v a w hE hd hf) (hT w _ _ _ _ _ _ _ _ _), by rw [hi]; exact ⟨_, _, _, _, _, _, _, _, rfl, ⟨_, _, _, _, rfl, h1⟩, ⟨_, _, _, _, rfl, h2⟩⟩⟩
/-- A store of a whole block. -/
def StV (P : Program) (T : TypeId) (m : Nat) : Prop := ∀ (w : World) (g : Nat) (vs us : List Value), vs.length = m → us.length = m → us.all (fun u => u.oneCell') = true → Bk w g vs → (Instr.storeAt T (.pointer (some ⟨g, 0, none⟩)) (.agg us.toArray)).run P w = .ok () (setL w g 0 us)
theorem stV {w W : World} {g m : Nat} {vs us : List Value} {a : Act} {K : Act → World → Prop} {T : Nat} {x y : Operand} (B : Bk W g vs) (hT : StV P T m) (hl : vs.length = m) (hl' : us.length = m) (hn : ∀ v ∈ vs, NoWord v) (E : Ext w W) (hg : w.heap.size ≤ g)
  (h : ∀ W', Bk W' g us → Ext w W' → Gr W W' → (∀ g' vs', g' ≠ g → Bk W g' vs' → Bk W' g' vs') → W'.heap.size = W.heap.size → K a W')
  (ho : o.op = .store T x y := by rfl) (hd : o.dst = none := by rfl) (hx : a.eval x = .pointer (some ⟨g, 0, none⟩) := by kernel_rfl) (hy : a.eval y = .agg us.toArray := by kernel_rfl) (ho1 : us.all (fun u => u.oneCell') = true := by rfl) : Oper.wp P o a W K Q := by
 obtain ⟨W', h1, h2, h3, h4, h5, h6⟩ := B.put (us := us) (by omega) hn E hg
 refine st_wp ho hx hy (hT W g vs us hl hl' ho1 B) ?_
 rw [h1, hd]
 exact h W' h2 h3 h4 h5 h6
end
theorem nw5 {s : Bool} {a : Option Addr} {n c : Nat} {s' : Bool} {a' : Option Addr} {n' c' : Nat} {f : Bool} : ∀ v ∈ [Value.bool s, .slice a n c, .bool s', .slice a' n' c', .bool f], NoWord v := by
 intro v hv
 simp only [List.mem_cons, List.not_mem_nil, or_false] at hv
 rcases hv with rfl | rfl | rfl | rfl | rfl
 ·exact NoWord.bool _
 ·exact NoWord.slice _ _ _
 ·exact NoWord.bool _
 ·exact NoWord.slice _ _ _
 ·exact NoWord.bool _
theorem nw2 {s : Bool} {a : Option Addr} {n c : Nat} : ∀ v ∈ [Value.bool s, .slice a n c], NoWord v := by
 intro v hv
 simp only [List.mem_cons, List.not_mem_nil, or_false] at hv
 rcases hv with rfl | rfl
 ·exact NoWord.bool _
 ·exact NoWord.slice _ _ _
set_option maxRecDepth 100000
theorem st_Kn : StV Tryz.prog 176 5 := by
 intro w g vs us h1 h2 hs B
 match vs, h1 with
 | [v0, v1, v2, v3, v4], _ =>
  match us, h2 with
  | [u0, u1, u2, u3, u4], _ =>
   simp only [List.all_cons, List.all_nil, Bool.and_true, Bool.and_eq_true] at hs
   obtain ⟨s0, s1, s2, s3, s4⟩ := hs
   have r0 := fun w a m => run_store Tryz.prog w a u0 m s0; have r1 := fun w a m => run_store Tryz.prog w a u1 m s1; have r2 := fun w a m => run_store Tryz.prog w a u2 m s2; have r3 := fun w a m => run_store Tryz.prog w a u3 m s3; have r4 := fun w a m => run_store Tryz.prog w a u4 m s4
   have c0 := B.c 0 _ rfl; have c1 := B.c 1 _ rfl; have c2 := B.c 2 _ rfl; have c3 := B.c 3 _ rfl; have c4 := B.c 4 _ rfl
   have f0 := B.f 0; have f1 := B.f 1; have f2 := B.f 2; have f3 := B.f 3; have f4 := B.f 4
   clear B s0 s1 s2 s3 s4
   simp only [setL]
   go_simp
theorem st_In : StV Tryz.prog 28 2 := by
 intro w g vs us h1 h2 hs B
 match vs, h1 with
 | [v0, v1], _ =>
  match us, h2 with
  | [u0, u1], _ =>
   simp only [List.all_cons, List.all_nil, Bool.and_true, Bool.and_eq_true] at hs
   obtain ⟨s0, s1⟩ := hs
   have r0 := fun w a m => run_store Tryz.prog w a u0 m s0; have r1 := fun w a m => run_store Tryz.prog w a u1 m s1
   have c0 := B.c 0 _ rfl; have c1 := B.c 1 _ rfl
   have f0 := B.f 0; have f1 := B.f 1
   clear B s0 s1
   simp only [setL]
   go_simp
theorem ld_Kn : LdV Tryz.prog 176 5 := by
 intro w g vs h1 B
 match vs, h1 with
 | [v0, v1, v2, v3, v4], _ =>
  have c0 := B.c 0 _ rfl; have c1 := B.c 1 _ rfl; have c2 := B.c 2 _ rfl; have c3 := B.c 3 _ rfl; have c4 := B.c 4 _ rfl
  clear B
  go_simp
theorem bd_Kn (w : World) (s : Bool) (b : Option Addr) (n c : Nat) (s' : Bool) (b' : Option Addr) (n' c' : Nat) : (Instr.build 176 #[(0, .agg #[.bool s, .slice b n c]), (1, .agg #[.bool s', .slice b' n' c'])]).run Tryz.prog w = .ok (.agg #[.bool s, .slice b n c, .bool s', .slice b' n' c', .bool false]) w := by go_simp
theorem bd_Kn3 (w : World) (s : Bool) (b : Option Addr) (n c : Nat) (s' : Bool) (b' : Option Addr) (n' c' : Nat) (f : Bool) : (Instr.build 176 #[(0, .agg #[.bool s, .slice b n c]), (1, .agg #[.bool s', .slice b' n' c']), (2, .bool f)]).run Tryz.prog w = .ok (.agg #[.bool s, .slice b n c, .bool s', .slice b' n' c', .bool f]) w := by go_simp
theorem fa_Kn0 (g f : Nat) (w : World) : (Instr.fieldAt 176 (.pointer (some ⟨g, f, none⟩)) 0).run Tryz.prog w = .ok (.pointer (some ⟨g, f, none⟩)) w := by go_simp
theorem fa_Kn1 (g f : Nat) (w : World) : (Instr.fieldAt 176 (.pointer (some ⟨g, f, none⟩)) 1).run Tryz.prog w = .ok (.pointer (some ⟨g, f + 2, none⟩)) w := by go_simp
theorem fa_Kn2 (g f : Nat) (w : World) : (Instr.fieldAt 176 (.pointer (some ⟨g, f, none⟩)) 2).run Tryz.prog w = .ok (.pointer (some ⟨g, f + 4, none⟩)) w := by go_simp
end Go.Proofs.YtkeikfekkdplgaaGreatDoor
