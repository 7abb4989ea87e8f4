/-
 Package eval: sorted, at a map that holds no key, or one. (Printed by wip/gen/ev13.py.)
 Package eval: the machine's maps; cell without cells; Eval.
-/
import Derived.Test.YtkeikfekkdplgaaGreatDoorEvS
import Derived.Maps.RangeWalk
import Derived.Maps.OwnSet
namespace Go.Proofs.YtkeikfekkdplgaaGreatDoor
open Go Go.RowKit Go.Maps
abbrev DU := DataW Unit
theorem ty_int : Tryz.prog.underlying 3 = some (.int .i64) := by kernel_rfl
theorem ty_str : Tryz.prog.underlying 9 = some .string := by kernel_rfl
theorem ty_bool : Tryz.prog.underlying 4 = some .bool := by kernel_rfl
theorem ty_mi : Tryz.prog.underlying 152 = some (.map 3 4) := by kernel_rfl
theorem ty_ms : Tryz.prog.underlying 151 = some (.map 9 4) := by kernel_rfl
theorem ty_ai : Tryz.prog.underlying 41 = some (.slice 3) := by kernel_rfl
theorem ty_as : Tryz.prog.underlying 51 = some (.slice 9) := by kernel_rfl
theorem lawI : Keyed Tryz.prog 3 := int_keyed ty_int
theorem lawS : Keyed Tryz.prog 9 := string_keyed ty_str
theorem boolV {v : Value} {z : DU × List MemPlace} (h : plainElem Tryz.prog 4 v = some z) : ∃ q : Nat, v = .bool (Nat.beq q 0) := by
 unfold plainElem at h
 rw [ty_bool] at h
 cases v <;> simp at h
 rename_i c
 cases c
 ·exact ⟨1, rfl⟩
 ·exact ⟨0, rfl⟩
def oneI (k : Int) : DU := DataW.put (.map []) (.int .i64 k) (.lit (.bool true))
def oneS (s : ByteArray) : DU := DataW.put (.map []) (.string s.data.toList) (.lit (.bool true))
theorem has_oneI {k : Int} {kl : Lit} (h : Maps.has (oneI k) kl = true) : kl = .int .i64 k := by
 rcases Classical.em (kl = .int .i64 k) with e | e
 ·exact e
 ·unfold oneI at h
  rw [has_put_other e] at h
  cases h
theorem has_oneS {s : ByteArray} {kl : Lit} (h : Maps.has (oneS s) kl = true) : kl = .string s.data.toList := by
 rcases Classical.em (kl = .string s.data.toList) with e | e
 ·exact e
 ·unfold oneS at h
  rw [has_put_other e] at h
  cases h
theorem size_oneI (k : Int) : Maps.size (oneI k) = 1 := rfl
theorem size_oneS (s : ByteArray) : Maps.size (oneS s) = 1 := rfl

set_option maxRecDepth 100000 in
set_option maxHeartbeats 4000000 in
theorem sortedI_0 {b n : Nat} {w : World} (hown : w.ownsMap (H := Unit) Tryz.prog 3 (plainElem Tryz.prog 4) b n (.map [])) : Calls Tryz.prog 67 #[.map (some b)] w (fun e w' => e = .returned (.slice none 0 0) ∧ Ext w w') := by
 go_enter Tryz.func67, Tryz.ntmps67
 go_wp2_with (first | (at_range; refine wpList_range_own _ rfl _ 152 rfl 3 4 lawI ty_mi _ b n _ rfl hown ?_; intro w0 hrg0 hg0 hs0) | go_in)
 go_frame
 have e0 := ext_of_grown hg0
 clear hg0 hs0
 refine wp_loop_rounds 1 ?_
 rw [rounds_succ]
 go_wp2_with (first | (at_next; go_loud (refine wpList_next_ranges _ rfl _ rfl 3 lawI (plainElem Tryz.prog 4) (Value.int .i64) (fun q : Nat => Value.bool (Nat.beq q 0)) (fun key kl hk => by obtain ⟨x, hx, _⟩ := Maps.keyOf_int_inv ty_int hk; exact ⟨x, hx⟩) (fun v y hv => boolV hv) b w.heap.size n _ _ _ rfl hrg0 ?_ ?_)) | go_in)
 ·intro hc0 hl0
  go_wp2_with (go_at_call 85; refine (sort_int none 0 0 _ (by decide)).mono ?_; rintro e w1 ⟨rfl, e1⟩)
  go_ret
  exact ⟨rfl, e0.trans e1⟩
 ·intro x c kl yd yp w2 cnt2 hkey hlk hv hat hrg2 hlt
  exact absurd hlt (by simp [Maps.size])

set_option maxRecDepth 100000 in
set_option maxHeartbeats 4000000 in
theorem sortedI_1 {b n : Nat} {w : World} (k : Int) (hown : w.ownsMap Tryz.prog 3 (plainElem Tryz.prog 4) b n (oneI k)) : Calls Tryz.prog 67 #[.map (some b)] w (fun e w' => Ext w w' ∧ ∃ g c, e = .returned (.slice (some ⟨g, 0, none⟩) 1 c) ∧ w.heap.size ≤ g ∧ 1 ≤ c ∧ World.cell? w' ⟨g, 0, none⟩ = some (.int .i64 k)) := by
 obtain ⟨i0, hi, hz0, hz1, hz2⟩ := info_parts (P := Tryz.prog) (e := 3) (z := .int .i64 0) (size := 1) (bytes := 8) (by kernel_rfl)
 go_enter Tryz.func67, Tryz.ntmps67
 go_wp2_with (first | (at_range; refine wpList_range_own _ rfl _ 152 rfl 3 4 lawI ty_mi _ b n _ rfl hown ?_; intro w0 hrg0 hg0 hs0) | go_in)
 go_frame
 have e0 := ext_of_grown hg0
 have hs1 := hg0.size
 clear hg0 hs0
 refine wp_loop_rounds 2 ?_
 rw [rounds_succ]
 go_wp2_with (first | (at_next; go_loud (refine wpList_next_ranges _ rfl _ rfl 3 lawI (plainElem Tryz.prog 4) (Value.int .i64) (fun q : Nat => Value.bool (Nat.beq q 0)) (fun key kl hk => by obtain ⟨x, hx, _⟩ := Maps.keyOf_int_inv ty_int hk; exact ⟨x, hx⟩) (fun v y hv => boolV hv) b w.heap.size n _ _ _ rfl hrg0 ?_ ?_)) | go_in)
 ·intro hc0 hl0
  exact absurd hc0 (by rw [size_oneI]; decide)
 ·intro x c kl yd yp w2 cnt2 hkey hlk hv hat hrg2 hlt hg2 hs2 hen
  obtain ⟨x', ex, rfl, _⟩ := Maps.keyOf_int_inv ty_int hkey
  injection ex with _ ex
  subst ex
  have hk := has_oneI hlk
  injection hk with _ hk
  subst hk
  rw [size_oneI] at hlt
  obtain rfl : cnt2 = 0 := by omega
  have e2 : Ext w w2 := Below.grown e0 hg2 hs1 (fun k hk => by cases hk; exact Nat.le_refl _)
  clear hs2
  go_wp2_with (first
   | (at_builtin; refine wpList_append_own _ rfl _ _ 41 rfl w.heap.size 3 i0 (.int .i64 0) 1 8 ty_ai hi hz0 hz1 hz2 rfl (by decide) (.slice none 0 0) 0 [] rfl (World.ownsRow_nil _ _ _ _) ⟨w2.heap.size, 0, none⟩ 1 1 [.int .i64 x] rfl rfl (cell_one_new _ _ _) (by simp [Value.oneCell']) (by unfold maxLen; omega) (by omega) (by have := e2.size; simp; omega) ?_; intro v' w3 hown' hg3 hnil3; go_frame)
   | go_in)
  have e3 : Ext w w3 := Below.grown (Ext.alloc e2 _) hg3 (by have := e2.size; simp; omega) (fun k hk => by simp [Value.ownBlock] at hk)
  have hrg3 := (hrg2.alloc (.cells #[.int .i64 x] 3)).kept hg3 (by simp [Value.ownBlock]) (by simp [Value.ownBlock])
  obtain ⟨ao, cp, rfl, hn, hc, hl, hcells⟩ := Rwg.shape (e := 3) (k := 1) hown'
  obtain ⟨g, rfl, hg, hgl, hcell⟩ := hcells (by decide)
  have hcell := hcell 0 _ rfl
  clear hrg2 hrg0 e0 e2 hg2 hg3 hnil3 hown' hcells hl hv hat hen hkey hlk hown hc
  rw [rounds_succ]
  go_wp2_with (first | (at_next; go_loud (refine wpList_next_ranges _ rfl _ rfl 3 lawI (plainElem Tryz.prog 4) (Value.int .i64) (fun q : Nat => Value.bool (Nat.beq q 0)) (fun key kl hk => by obtain ⟨x, hx, _⟩ := Maps.keyOf_int_inv ty_int hk; exact ⟨x, hx⟩) (fun v y hv => boolV hv) b w.heap.size n _ _ _ rfl hrg3 ?_ ?_)) | go_in)
  try intro hl0
  go_wp2_with (go_at_call 85; refine (sort_int (some ⟨g, 0, none⟩) 1 cp _ (by decide)).mono ?_; rintro e w4 ⟨rfl, e4⟩)
  go_ret
  exact ⟨e3.trans e4, g, cp, rfl, hg, hn, e4.cell hcell⟩

set_option maxRecDepth 100000 in
set_option maxHeartbeats 4000000 in
theorem sortedS_0 {b n : Nat} {w : World} (hown : w.ownsMap (H := Unit) Tryz.prog 9 (plainElem Tryz.prog 4) b n (.map [])) : Calls Tryz.prog 68 #[.map (some b)] w (fun e w' => e = .returned (.slice none 0 0) ∧ Ext w w') := by
 go_enter Tryz.func68, Tryz.ntmps68
 go_wp2_with (first | (at_range; refine wpList_range_own _ rfl _ 151 rfl 9 4 lawS ty_ms _ b n _ rfl hown ?_; intro w0 hrg0 hg0 hs0) | go_in)
 go_frame
 have e0 := ext_of_grown hg0
 clear hg0 hs0
 refine wp_loop_rounds 1 ?_
 rw [rounds_succ]
 go_wp2_with (first | (at_next; go_loud (refine wpList_next_ranges _ rfl _ rfl 9 lawS (plainElem Tryz.prog 4) (Value.string) (fun q : Nat => Value.bool (Nat.beq q 0)) (fun key kl hk => by obtain ⟨x, hx, _⟩ := WideMaps.string_of_keyOf ty_str hk; exact ⟨x, hx⟩) (fun v y hv => boolV hv) b w.heap.size n _ _ _ rfl hrg0 ?_ ?_)) | go_in)
 ·intro hc0 hl0
  go_wp2_with (go_at_call 86; refine (sort_string none 0 0 _ (by decide)).mono ?_; rintro e w1 ⟨rfl, e1⟩)
  go_ret
  exact ⟨rfl, e0.trans e1⟩
 ·intro x c kl yd yp w2 cnt2 hkey hlk hv hat hrg2 hlt
  exact absurd hlt (by simp [Maps.size])

set_option maxRecDepth 100000 in
set_option maxHeartbeats 4000000 in
theorem sortedS_1 {b n : Nat} {w : World} (s : ByteArray) (hown : w.ownsMap Tryz.prog 9 (plainElem Tryz.prog 4) b n (oneS s)) : Calls Tryz.prog 68 #[.map (some b)] w (fun e w' => Ext w w' ∧ ∃ g c, e = .returned (.slice (some ⟨g, 0, none⟩) 1 c) ∧ w.heap.size ≤ g ∧ 1 ≤ c ∧ World.cell? w' ⟨g, 0, none⟩ = some (.string s)) := by
 obtain ⟨i0, hi, hz0, hz1, hz2⟩ := info_parts (P := Tryz.prog) (e := 9) (z := .string ⟨#[]⟩) (size := 1) (bytes := 16) (by kernel_rfl)
 go_enter Tryz.func68, Tryz.ntmps68
 go_wp2_with (first | (at_range; refine wpList_range_own _ rfl _ 151 rfl 9 4 lawS ty_ms _ b n _ rfl hown ?_; intro w0 hrg0 hg0 hs0) | go_in)
 go_frame
 have e0 := ext_of_grown hg0
 have hs1 := hg0.size
 clear hg0 hs0
 refine wp_loop_rounds 2 ?_
 rw [rounds_succ]
 go_wp2_with (first | (at_next; go_loud (refine wpList_next_ranges _ rfl _ rfl 9 lawS (plainElem Tryz.prog 4) (Value.string) (fun q : Nat => Value.bool (Nat.beq q 0)) (fun key kl hk => by obtain ⟨x, hx, _⟩ := WideMaps.string_of_keyOf ty_str hk; exact ⟨x, hx⟩) (fun v y hv => boolV hv) b w.heap.size n _ _ _ rfl hrg0 ?_ ?_)) | go_in)
 ·intro hc0 hl0
  exact absurd hc0 (by rw [size_oneS]; decide)
 ·intro x c kl yd yp w2 cnt2 hkey hlk hv hat hrg2 hlt hg2 hs2 hen
  obtain ⟨x', ex, rfl, _⟩ := WideMaps.string_of_keyOf ty_str hkey
  injection ex with ex
  subst ex
  have hk := has_oneS hlk
  injection hk with hk
  have hk : x = s := by cases x with | mk d1 => cases s with | mk d2 => simpa [Array.toList_inj] using hk
  subst hk
  rw [size_oneS] at hlt
  obtain rfl : cnt2 = 0 := by omega
  have e2 : Ext w w2 := Below.grown e0 hg2 hs1 (fun k hk => by cases hk; exact Nat.le_refl _)
  clear hs2
  go_wp2_with (first
   | (at_builtin; refine wpList_append_own _ rfl _ _ 51 rfl w.heap.size 9 i0 (.string ⟨#[]⟩) 1 16 ty_as hi hz0 hz1 hz2 rfl (by decide) (.slice none 0 0) 0 [] rfl (World.ownsRow_nil _ _ _ _) ⟨w2.heap.size, 0, none⟩ 1 1 [.string x] rfl rfl (cell_one_new _ _ _) (by simp [Value.oneCell']) (by unfold maxLen; omega) (by omega) (by have := e2.size; simp; omega) ?_; intro v' w3 hown' hg3 hnil3; go_frame)
   | go_in)
  have e3 : Ext w w3 := Below.grown (Ext.alloc e2 _) hg3 (by have := e2.size; simp; omega) (fun k hk => by simp [Value.ownBlock] at hk)
  have hrg3 := (hrg2.alloc (.cells #[.string x] 9)).kept hg3 (by simp [Value.ownBlock]) (by simp [Value.ownBlock])
  obtain ⟨ao, cp, rfl, hn, hc, hl, hcells⟩ := Rwg.shape (e := 9) (k := 1) hown'
  obtain ⟨g, rfl, hg, hgl, hcell⟩ := hcells (by decide)
  have hcell := hcell 0 _ rfl
  clear hrg2 hrg0 e0 e2 hg2 hg3 hnil3 hown' hcells hl hv hat hen hkey hlk hown hc
  rw [rounds_succ]
  go_wp2_with (first | (at_next; go_loud (refine wpList_next_ranges _ rfl _ rfl 9 lawS (plainElem Tryz.prog 4) (Value.string) (fun q : Nat => Value.bool (Nat.beq q 0)) (fun key kl hk => by obtain ⟨x, hx, _⟩ := WideMaps.string_of_keyOf ty_str hk; exact ⟨x, hx⟩) (fun v y hv => boolV hv) b w.heap.size n _ _ _ rfl hrg3 ?_ ?_)) | go_in)
  try intro hl0
  go_wp2_with (go_at_call 86; refine (sort_string (some ⟨g, 0, none⟩) 1 cp _ (by decide)).mono ?_; rintro e w4 ⟨rfl, e4⟩)
  go_ret
  exact ⟨e3.trans e4, g, cp, rfl, hg, hn, e4.cell hcell⟩
end Go.Proofs.YtkeikfekkdplgaaGreatDoor
namespace Go.Proofs.YtkeikfekkdplgaaGreatDoor
open Go Go.RowKit Go.Maps
def mapS : List ByteArray → DU
 | [] => .map []
 | x :: _ => oneS x
def mapI : List Int → DU
 | [] => .map []
 | x :: _ => oneI x
abbrev Sts := List ByteArray × List Int
/-- The machine's maps: at most one name, at most one hypothesis. -/
def JJ (h : Nat) (s : Sts) (w : World) : Prop := s.1.length ≤ 1 ∧ s.2.length ≤ 1 ∧ w.ownsMap Tryz.prog 9 (plainElem Tryz.prog 4) h s.1.length (mapS s.1) ∧ w.ownsMap Tryz.prog 3 (plainElem Tryz.prog 4) (h + 1) s.2.length (mapI s.2)
theorem JJ.inv (h : Nat) : MapInv h (JJ h) := by
 rintro ⟨rd, hy⟩ w w' ⟨h1, h2, ⟨es, clock, hb, F, hs, hD⟩, ⟨es', clock', hb', F', hs', hD'⟩⟩ hsz k1 k2
 exact ⟨h1, h2, ⟨es, clock, k1.trans hb, F, hs, hD⟩, ⟨es', clock', k2.trans hb', F', hs', hD'⟩⟩
theorem JJ.ob {h g : Nat} {s : Sts} {w w' : World} (j : JJ h s w) (e : Ob g w w') (h1 : g ≠ h) (h2 : g ≠ h + 1) : JJ h s w' :=
 JJ.inv h s w w' j e.size (e.block h j.2.2.1.lt h1.symm) (e.block (h + 1) j.2.2.2.lt h2.symm)
theorem JJ.made (W : World) (cs : Array Value) (T : TypeId) : JJ W.heap.size ([], []) (((W.alloc (.map #[] 0)).alloc (.map #[] 0)).alloc (.cells cs T)) := by
 refine ⟨Nat.zero_le _, Nat.zero_le _, ((World.ownsMap_made W _ _ _).alloc _).alloc _, ?_⟩
 have := (World.ownsMap_made (H := Unit) (W.alloc (.map #[] 0)) Tryz.prog 3 (plainElem Tryz.prog 4)).alloc (.cells cs T)
 simpa [mapI] using this
/-- A row of at most one name, of at most one number. -/
def IsRS (B : Nat) (l : List ByteArray) (v : Value) (w : World) : Prop := match l with
 | [] => v = .slice none 0 0
 | x :: _ => ∃ g c, v = .slice (some ⟨g, 0, none⟩) 1 c ∧ B ≤ g ∧ 1 ≤ c ∧ World.cell? w ⟨g, 0, none⟩ = some (.string x)
def IsRI (B : Nat) (l : List Int) (v : Value) (w : World) : Prop := match l with
 | [] => v = .slice none 0 0
 | x :: _ => ∃ g c, v = .slice (some ⟨g, 0, none⟩) 1 c ∧ B ≤ g ∧ 1 ≤ c ∧ World.cell? w ⟨g, 0, none⟩ = some (.int .i64 x)
theorem IsRS.ext {B : Nat} {l : List ByteArray} {v : Value} {w w' : World} (h : IsRS B l v w) (e : Ext w w') : IsRS B l v w' := by
 cases l with
 | nil => exact h
 | cons x t => obtain ⟨g, c, h1, h0, h2, h3⟩ := h; exact ⟨g, c, h1, h0, h2, e.cell h3⟩
theorem IsRS.ob {B g : Nat} {l : List ByteArray} {v : Value} {w w' : World} (h : IsRS B l v w) (e : Ob g w w') (hg : g < B) : IsRS B l v w' := by
 cases l with
 | nil => exact h
 | cons x t =>
  obtain ⟨g', c, h1, h0, h2, h3⟩ := h
  exact ⟨g', c, h1, h0, h2, (World.cell?_of_block (w := w) (a := ⟨g', 0, none⟩) (e.block g' (World.block_lt_of_cell? w _ h3) (by omega))).trans h3⟩
theorem IsRI.ext {B : Nat} {l : List Int} {v : Value} {w w' : World} (h : IsRI B l v w) (e : Ext w w') : IsRI B l v w' := by
 cases l with
 | nil => exact h
 | cons x t => obtain ⟨g, c, h1, h0, h2, h3⟩ := h; exact ⟨g, c, h1, h0, h2, e.cell h3⟩
theorem IsRI.ob {B g : Nat} {l : List Int} {v : Value} {w w' : World} (h : IsRI B l v w) (e : Ob g w w') (hg : g < B) : IsRI B l v w' := by
 cases l with
 | nil => exact h
 | cons x t =>
  obtain ⟨g', c, h1, h0, h2, h3⟩ := h
  exact ⟨g', c, h1, h0, h2, (World.cell?_of_block (w := w) (a := ⟨g', 0, none⟩) (e.block g' (World.block_lt_of_cell? w _ h3) (by omega))).trans h3⟩
theorem IsRS.mono {B B' : Nat} {l : List ByteArray} {v : Value} {w : World} (h : IsRS B l v w) (hb : B' ≤ B) : IsRS B' l v w := by
 cases l with
 | nil => exact h
 | cons x t => obtain ⟨g, c, h1, h0, h2, h3⟩ := h; exact ⟨g, c, h1, Nat.le_trans hb h0, h2, h3⟩
theorem IsRI.mono {B B' : Nat} {l : List Int} {v : Value} {w : World} (h : IsRI B l v w) (hb : B' ≤ B) : IsRI B' l v w := by
 cases l with
 | nil => exact h
 | cons x t => obtain ⟨g, c, h1, h0, h2, h3⟩ := h; exact ⟨g, c, h1, Nat.le_trans hb h0, h2, h3⟩
theorem sortedS_f {b : Nat} {l : List ByteArray} {w : World} (hown : w.ownsMap Tryz.prog 9 (plainElem Tryz.prog 4) b l.length (mapS l)) : Calls Tryz.prog 68 #[.map (some b)] w (fun e w' => Ext w w' ∧ ∃ v, e = .returned v ∧ IsRS w.heap.size l v w') := by
 cases l with
 | nil => exact Calls.mono (sortedS_0 hown) fun e w' h => ⟨h.2, _, h.1, rfl⟩
 | cons x t => exact Calls.mono (sortedS_1 x hown) fun e w' h => let ⟨h1, g, c, h2, h3, h4, h5⟩ := h; ⟨h1, _, h2, g, c, rfl, h3, h4, h5⟩
theorem sortedI_f {b : Nat} {l : List Int} {w : World} (hown : w.ownsMap Tryz.prog 3 (plainElem Tryz.prog 4) b l.length (mapI l)) : Calls Tryz.prog 67 #[.map (some b)] w (fun e w' => Ext w w' ∧ ∃ v, e = .returned v ∧ IsRI w.heap.size l v w' ∧ ∃ a n c, v = .slice a n c) := by
 cases l with
 | nil => exact Calls.mono (sortedI_0 hown) fun e w' h => ⟨h.2, _, h.1, rfl, _, _, _, rfl⟩
 | cons x t => exact Calls.mono (sortedI_1 x hown) fun e w' h => let ⟨h1, g, c, h2, h3, h4, h5⟩ := h; ⟨h1, _, h2, ⟨g, c, rfl, h3, h4, h5⟩, _, _, _, rfl⟩

set_option maxRecDepth 100000 in
theorem idx0_f (w : World) (f : Value) : Calls Tryz.prog 132 #[.slice none 0 0, f] w (fun e w' => e = .returned (.int .i64 (-1)) ∧ w' = w) := by
 go_enter Tryz.func132, Tryz.ntmps132
 go_wp2
 refine wp_loop_rounds 1 ?_
 rw [rounds_succ]
 go_wp2
 go_ret
 exact ⟨rfl, rfl⟩
set_option maxRecDepth 100000 in
set_option maxHeartbeats 4000000 in
theorem cell0_f {σ : Type} {m : Mc} {J : σ → World → Prop} {w : World} {st : Mst σ} {x : ByteArray} (hcs : m.cs = .slice none 0 0) (hJ : MapInv m.h J) (hh : m.h + 3 ≤ w.heap.size) (hM : MAt m st.1 w) (hj : J st.2 w) :
  Calls Tryz.prog 111 #[.pointer (some ⟨m.h + 2, 0, none⟩), .string x] w (EvP m J w (.error 440, st)) := by
 have hmf : ∀ (fn : Fn) (first cap : Array Value) (w : World), (Instr.makeFunc fn first cap).run Tryz.prog w = .ok (.func fn first cap) w := fun _ _ _ _ => rfl
 obtain ⟨W, hW, E⟩ : ∃ W, W = (w.alloc (.cells #[.string x] 9)).alloc (.cells #[.bool false, .slice none 0 0, .bool false, .slice none 0 0, .bool false] 176) ∧ Ext w W := ⟨_, rfl, ((Ext.refl w).alloc _).alloc _⟩
 have hM' := hM.ext E
 have c0 := hM'.bk.c 0 _ rfl
 rw [hcs] at c0
 go_enter Tryz.func111, Tryz.ntmps111
 go_upto_region 1 with (fail)
 rw [← hW]
 clear hW
 have hfit : True := trivial
 go_wp2_with (go_at_call 132; refine (idx0_f _ _).mono ?_; rintro e w1 ⟨rfl, rfl⟩)
 exact ⟨rfl, Rm.ext E, hM', hJ.ext hj E hh, rfl⟩
end Go.Proofs.YtkeikfekkdplgaaGreatDoor
