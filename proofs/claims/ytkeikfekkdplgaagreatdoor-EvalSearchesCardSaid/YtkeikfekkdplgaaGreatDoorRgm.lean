/-
 Plain laws on decimal numerals, and rows of strings that a call itself makes. No condition. Rows that a call itself makes and appends to, one element at a time. No condition.
 Integers of package integer: Parse at the string -0. No condition. The rule of XRg with a letter for the frame: an operation is shown by what its operands hold. No condition on the program.
-/
import Derived.Test.YtkeikfekkdplgaaGreatDoorRef
import Derived.Lib.ItoaMem
import Derived.Lib.Repeat
import Derived.Lib.Join
import Derived.Test.YtkeikfekkdplgaaGreatDoorFact
namespace Go.Proofs.YtkeikfekkdplgaaGreatDoor
open Go Go.RowKit

end Go.Proofs.YtkeikfekkdplgaaGreatDoor
namespace Go.Proofs.YtkeikfekkdplgaaGreatDoor
open Go Go.RowKit

/-- v is a slice of the call's own, made since 'base': the elements xs, each in one cell; all its cells satisfy ok. -/
def RowOf (e : TypeId) (ok : Value → Prop) (w : World) (base : Nat) (v : Value) (xs : List Value) : Prop :=
 (v = .slice none 0 0 ∧ xs = []) ∨
 ∃ (g cap : Nat) (cur : Array Value), v = .slice (some ⟨g, 0, none⟩) xs.length cap ∧ base ≤ g ∧ w.heap[g]? = some (.cells cur e (0, 0)) ∧ xs.length ≤ cap ∧ cap ≤ 9223372036854775807 ∧ cur.size = cap ∧ cur.toList.take xs.length = xs ∧
  (∀ (j : Nat) (u : Value), cur[j]? = some u → ok u)
theorem RowOf.ext {e : TypeId} {ok : Value → Prop} {w w' : World} {base : Nat} {v : Value} {xs : List Value} (h : RowOf e ok w base v xs) (k : Ext w w') : RowOf e ok w' base v xs := by
 rcases h with h | ⟨g, cap, cur, h1, h2, h3, h4⟩
 ·exact .inl h
 ·exact .inr ⟨g, cap, cur, h1, h2, k.heap h3, h4⟩
theorem RowOf.shape {e : TypeId} {ok : Value → Prop} {w : World} {base : Nat} {v : Value} {xs : List Value} (h : RowOf e ok w base v xs) : ∃ ao cap, v = .slice ao xs.length cap ∧ (xs ≠ [] → ∃ g, ao = some ⟨g, 0, none⟩ ∧ base ≤ g ∧ g < w.heap.size) ∧ xs.length ≤ cap ∧ cap ≤ 9223372036854775807 := by
 rcases h with ⟨rfl, rfl⟩ | ⟨g, cap, cur, h1, h2, h3, h4, h5, _⟩
 ·exact ⟨none, 0, rfl, fun h => absurd rfl h, by simp, by omega⟩
 ·exact ⟨_, cap, h1, fun _ => ⟨g, rfl, h2, heap_lt h3⟩, h4, h5⟩
theorem RowOf.cell {e : TypeId} {ok : Value → Prop} {w : World} {base : Nat} {xs : List Value} {g n cap : Nat} (h : RowOf e ok w base (.slice (some ⟨g, 0, none⟩) n cap) xs) (j : Nat) (u : Value) (hj : xs[j]? = some u) : w.cell? ⟨g, j, none⟩ = some u := by
 rcases h with ⟨h, rfl⟩ | ⟨g', cap', cur, h1, h2, h3, h4, h5, h6, h7, h8⟩
 ·simp at hj
 ·simp only [Value.slice.injEq, Option.some.injEq, Addr.mk.injEq, and_true] at h1
  obtain ⟨rfl, rfl, rfl⟩ := h1
  have hjl : j < xs.length := (List.getElem?_eq_some_iff.1 hj).1
  simp only [World.cell?]; rw [h3]
  show cur[j]? = some u
  rw [← h7, List.getElem?_take] at hj
  rw [if_pos hjl] at hj
  simpa using hj
theorem RowOf.free {e : TypeId} {ok : Value → Prop} {w : World} {base : Nat} {xs : List Value} {g n cap : Nat} (h : RowOf e ok w base (.slice (some ⟨g, 0, none⟩) n cap) xs) (j : Nat) : w.frozen? ⟨g, j, none⟩ = false := by
 rcases h with ⟨h, rfl⟩ | ⟨g', cap', cur, h1, h2, h3, h4, h5, h6, h7, h8⟩
 ·cases h
 ·simp only [Value.slice.injEq, Option.some.injEq, Addr.mk.injEq, and_true] at h1
  obtain ⟨rfl, rfl, rfl⟩ := h1
  simp only [World.frozen?]; rw [h3]; simp

theorem Below.ext {base : Nat} {w0 w w' : World} (e : Ext w0 w) (h : Below base w w') (hb : w0.heap.size ≤ base) : Ext w0 w' := Below.trans e (Below.mono h hb)
theorem toList_zeroCells_one (z : Value) (n : Nat) : (Builtin.zeroCells #[z] n).toList = List.replicate n z := by
 simp only [Builtin.zeroCells, Array.toList_map, Array.toList_range]
 apply List.ext_getElem
 ·simp
 ·intro i h1 h2; simp [Nat.mod_one]
theorem row_append {P : Program} (w : World) (t ty e : TypeId) (ok : Value → Prop) (z : Value) (bytes : Nat) (hu : P.underlying t = some (.slice e)) (hinfo : (P.info? e).map (fun i => (i.zero, i.size, i.bytes)) = some (some z, 1, bytes)) (hz : z.cells = #[z]) (hzo : ok z)
  (base : Nat) (v : Value) (xs : List Value) (hr : RowOf e ok w base v xs) (b c1 : Nat) (u : Value) (hc : w.cell? ⟨b, 0, none⟩ = some u) (h1 : u.oneCell' = true) (huo : ok u) (hlen : (xs.length + 1) * bytes ≤ 140737488355328) (hl2 : xs.length + 1 ≤ 140737488355328) (hbase : base ≤ w.heap.size) :
  ∃ v' w', (Builtin.append_ #[t, t] ty #[v, .slice (some ⟨b, 0, none⟩) 1 c1]).run P w = .ok v' w' ∧ RowOf e ok w' base v' (xs ++ [u]) ∧ Below base w w' ∧ ((∀ x, ok x → NoWord x) → Gr w w') := by
 obtain ⟨i, hi, hz0, hz1, hz2⟩ := info_parts hinfo
 have hsrc : Src P i.size t (.slice (some ⟨b, 0, none⟩) 1 c1) 1 [u] w :=
  Src.ofSlice w hu _ 1 c1 [u] (by rw [hz1]; rfl) (fun j y hj => by
   cases j with
   | zero => simp at hj; subst hj; simpa [Addr.add] using hc
   | succ j => simp at hj) (fun y hy => by simp at hy; subst hy; exact h1)
 have grow : ∀ (ao : Option Addr) (n cap : Nat) (olds : List Value), n = xs.length → olds = xs → cap < n + 1 → (Builtin.firstCells i.size n (.slice ao n cap)).run P w.drew = .ok olds.toArray w.drew →
   ∃ v' w', (Builtin.append_ #[t, t] ty #[.slice ao n cap, .slice (some ⟨b, 0, none⟩) 1 c1]).run P w = .ok v' w' ∧ RowOf e ok w' base v' (xs ++ [u]) ∧ Below base w w' ∧ ((∀ x, ok x → NoWord x) → Gr w w') ∨ ¬ (∀ x ∈ xs, ok x) := by
  intro ao n cap olds hn ho hcap hold
  subst hn ho
  by_cases hok : ∀ x ∈ olds, ok x
  ·have hge := grownCap_ge w (olds.length + 1) cap e
   have hle := grownCap_le_maxLen w (olds.length + 1) cap e (by unfold maxLen; omega)
   have hrun := run_append_grow_src w t t ty e i z hu hi hz0 ao olds.length cap olds hold (.slice (some ⟨b, 0, none⟩) 1 c1) 1 [u] hsrc hcap (by omega) (growslice_fits hcap (by rw [hz2]; exact hlen))
   refine ⟨_, _, .inl ⟨hrun, .inr ⟨w.heap.size, _, _, by rw [List.length_append]; rfl, hbase, heap_alloc_new w.drew _, ?_, ?_, ?_, ?_, ?_⟩, ?_, ?_⟩⟩
   ·rw [List.length_append]; simpa using hge
   ·unfold maxLen at hle; omega
   ·rw [Array.size_append]
    simp only [List.size_toArray, List.length_append, List.length_cons, List.length_nil, size_zeroCells, hz]
    simp; omega
   ·rw [Array.toList_append]; exact List.take_left
   ·intro j y hj
    rw [hz] at hj
    have hmem := List.mem_of_getElem? (by rw [Array.getElem?_toList]; exact hj)
    rw [Array.toList_append, toList_zeroCells_one] at hmem
    rcases List.mem_append.1 hmem with h | h
    ·have h9 : y ∈ olds ∨ y = u := by simpa using h
     rcases h9 with h9 | h9
     ·exact hok y h9
     ·rw [h9]; exact huo
    ·rw [(List.mem_replicate.1 h).2]; exact hzo
   ·exact Below.mono ((Ext.refl w).drew.alloc _) hbase
   ·exact fun _ => ((Ext.refl w).drew.alloc _).gr
  ·exact ⟨.slice none 0 0, w, .inr hok⟩
 rcases hr with ⟨rfl, rfl⟩ | ⟨g, cap, cur, rfl, h2, h3, h4, h5, h6, h7, h8⟩
 ·obtain ⟨v', w', h | h⟩ := grow none 0 0 [] rfl rfl (by omega) (run_firstCells_none w.drew i.size 0 0 0)
  ·exact ⟨v', w', h⟩
  ·exact absurd (fun _ h => by cases h) h
 ·have hcells : ∀ j y, xs[j]? = some y → w.cell? ⟨g, j, none⟩ = some y := fun j y hj => (RowOf.cell (e := e) (ok := ok) (base := base) (.inr ⟨g, cap, cur, rfl, h2, h3, h4, h5, h6, h7, h8⟩) j y hj)
  have hxok : ∀ x ∈ xs, ok x := fun x hx => by
   rw [← h7] at hx
   obtain ⟨j, hj⟩ := List.mem_iff_getElem?.1 (List.mem_of_mem_take hx)
   exact h8 j x (by simpa using hj)
  by_cases hroom : xs.length + 1 ≤ cap
  ·have hfz : ∀ j, w.frozen? ⟨g, j, none⟩ = false := fun j => by simp only [World.frozen?]; rw [h3]; simp
   obtain ⟨y0, hy0⟩ : ∃ y, cur[xs.length]? = some y := ⟨cur[xs.length]'(by omega), by simp⟩
   have hyc : w.cell? ⟨g, xs.length, none⟩ = some y0 := by simp only [World.cell?]; rw [h3]; simpa using hy0
   have hrun := run_append_room_src w t t ty e i hu hi g 0 xs.length cap (.slice (some ⟨b, 0, none⟩) 1 c1) 1 [u] hsrc hroom
    (fun j hj => by
     have : j = 0 := by simpa using hj
     subst this; rw [hz1]; simp [hyc]) (fun j _ => hfz _)
   rw [hz1] at hrun
   simp only [Nat.mul_one, Nat.zero_add, World.setCells] at hrun
   refine ⟨_, _, hrun, .inr ⟨g, cap, cur.setIfInBounds xs.length u, by rw [List.length_append]; rfl, h2, ?_, by rw [List.length_append]; simpa using hroom, h5, by simpa using h6, ?_, ?_⟩, ?_, ?_⟩
   ·simp only [World.setCell, Array.getElem?_modify, if_true]
    rw [h3]; simp
   ·rw [List.length_append, List.length_cons, List.length_nil, Nat.zero_add, Array.toList_setIfInBounds, List.take_add_one, List.take_set_of_le (Nat.le_refl _), h7]
    rw [List.getElem?_set_self (by simp; omega)]; rfl
   ·intro j y hj
    rw [Array.getElem?_setIfInBounds] at hj
    split at hj
    ·split at hj
     ·cases hj; exact huo
     ·cases hj
    ·exact h8 j y hj
   ·exact Below.setCell (Below.refl base w) h2 u
   ·exact fun hnw => (Gr.refl w).set (p := ⟨g, xs.length, none⟩) hyc (hnw _ (h8 _ _ hy0)) u
  ·obtain ⟨v', w', h | h⟩ := grow (some ⟨g, 0, none⟩) xs.length cap xs rfl rfl (by omega) (run_firstCells_some w.drew i.size xs.length ⟨g, 0, none⟩ xs.length cap xs (by rw [hz1, Nat.mul_one]) (fun j y hj => by
    have := hcells j y hj
    by_cases hj0 : j = 0
    ·subst hj0; simpa [Addr.add] using this
    ·simpa [Addr.add, hj0] using this))
   ·exact ⟨v', w', h⟩
   ·exact absurd hxok h

/-- The step of a walk: v = append(v, u). -/
theorem wpl_row {P : Program} {w : World} {ops : Array Oper} {rest : List Oper} {o : Oper} {a : Act} {Q : Exit → Act → World → Prop} (hgd : o.guard = none) (s x : Operand) (t e : TypeId)
  (ho : o.op = .call { callee := .builtin .append, args := #[s, x], argTypes := #[t, t] }) (ok : Value → Prop) (z : Value) (bytes : Nat) (hu : P.underlying t = some (.slice e)) (hinfo : (P.info? e).map (fun i => (i.zero, i.size, i.bytes)) = some (some z, 1, bytes)) (hz : z.cells = #[z]) (hzo : ok z)
  (base : Nat) (v : Value) (xs : List Value) (hs : a.eval s = v) (hr : RowOf e ok w base v xs) (b c1 : Nat) (u : Value) (hx : a.eval x = .slice (some ⟨b, 0, none⟩) 1 c1) (hc : w.cell? ⟨b, 0, none⟩ = some u) (h1 : u.oneCell' = true) (huo : ok u) (hlen : (xs.length + 1) * bytes ≤ 140737488355328) (hl2 : xs.length + 1 ≤ 140737488355328) (hbase : base ≤ w.heap.size)
  (hK : ∀ v' w', RowOf e ok w' base v' (xs ++ [u]) → Below base w w' → ((∀ x, ok x → NoWord x) → Gr w w') → wpList P ops Q rest (a.put o.dst v') w') : wpList P ops Q (o :: rest) a w := by
 obtain ⟨v', w', hrun, h2, h3, h4⟩ := row_append w t o.type e ok z bytes hu hinfo hz hzo base v xs hr b c1 u hc h1 huo hlen hl2 hbase
 refine wpList_plain hgd fun K hK' => ?_
 unfold Oper.wp
 simp [execOp, ho, resolve, invoke, builtin, hs, hx, hrun, Result.andThen]
 exact hK' _ _ (hK v' w' h2 h3 h4)
end Go.Proofs.YtkeikfekkdplgaaGreatDoor
namespace Go.Proofs.YtkeikfekkdplgaaGreatDoor
end Go.Proofs.YtkeikfekkdplgaaGreatDoor
namespace Go.Proofs.YtkeikfekkdplgaaGreatDoor
open Go Go.RowKit
section
variable {P : Program} {md : Region.Mode} {ops : Array Oper} {Q : Exit → Act → World → Prop}

theorem size_put (a : Act) (d : Option Tmp) (x : Value) : (a.put d x).tmps.size = a.tmps.size := by
 cases d <;> simp [Act.put]
theorem layL_old (v : Nat → Value) (t : Nat) : ∀ (ds : List (Option Tmp)) (a : Act) (k : Nat), ds.contains (some t) = false → (layL v a k ds).tmps[t]? = a.tmps[t]?
 | [], _, _, _ => rfl
 | d :: ds, a, k, h => by
  simp only [List.contains_cons, Bool.or_eq_false_iff, beq_eq_false_iff_ne] at h
  rw [layL, layL_old v t ds _ (k + 1) h.2]
  cases d with
  | none => rfl
  | some u =>
   simp only [Act.put]
   rw [Array.getElem?_setIfInBounds_ne]
   intro he; exact h.1 (by rw [he])
theorem layL_at (v : Nat → Value) (t : Nat) : ∀ (ds : List (Option Tmp)) (a : Act) (k j : Nat), ds[j]? = some (some t) → (ds.drop (j + 1)).contains (some t) = false → t < a.tmps.size → (layL v a k ds).tmps[t]? = some (v (k + j))
 | [], _, _, _, h, _, _ => by simp at h
 | d :: ds, a, k, 0, h, hn, ht => by
  simp only [List.getElem?_cons_zero, Option.some.injEq] at h
  subst h
  rw [layL, layL_old v t ds _ (k + 1) (by simpa using hn)]
  simp only [Act.put]
  rw [Array.getElem?_setIfInBounds_self_of_lt ht]; rfl
 | d :: ds, a, k, j + 1, h, hn, ht => by
  rw [layL, layL_at v t ds _ (k + 1) j (by simpa using h) (by simpa using hn) (by rw [size_put]; exact ht)]
  congr 2; omega

/-- What a letter for the frame holds. -/
structure Fr (ds : List (Option Tmp)) (a0 : Act) (v : Nat → Value) (a : Act) : Prop where
 at_ : ∀ j t, ds[j]? = some (some t) → (ds.drop (j + 1)).contains (some t) = false → decide (t < a0.tmps.size) = true → a.tmps[t]? = some (v j)
 old : ∀ t, ds.contains (some t) = false → a.tmps[t]? = a0.tmps[t]?
theorem Fr.of (ds : List (Option Tmp)) (a0 : Act) (v : Nat → Value) : Fr ds a0 v (layL v a0 0 ds) :=
 ⟨fun j t h hn ht => by have := layL_at v t ds a0 0 j h hn (of_decide_eq_true ht); rwa [Nat.zero_add] at this, fun t h => layL_old v t ds a0 0 h⟩
theorem Fr.val {ds : List (Option Tmp)} {a0 : Act} {v : Nat → Value} {a : Act} (h : Fr ds a0 v a) (j t : Nat) (x : Value) (hd : v j = x) (h1 : ds[j]? = some (some t)) (h2 : (ds.drop (j + 1)).contains (some t) = false) (h3 : decide (t < a0.tmps.size) = true) : a.tmps[t]?.getD undef = x := by
 have := h.at_ j t h1 h2 h3
 simp [this, hd]
theorem Fr.lit {ds : List (Option Tmp)} {a0 : Act} {v : Nat → Value} {a : Act} (h : Fr ds a0 v a) (t : Nat) (x : Value) (h1 : ds.contains (some t) = false) (h2 : a0.tmps[t]? = some x) : a.tmps[t]?.getD undef = x := by
 have := (h.old t h1).trans h2
 simp [this]

variable {ds : List (Option Tmp)} {a0 : Act} {w0 : World} {L : List (Value → World → Prop)} {boxes : List Nat} {i : Nat} {o : Oper}
/-- What is to be shown of an operation, the frame a letter. -/
def OpOk (P : Program) (md : Region.Mode) (ops : Array Oper) (Q : Exit → Act → World → Prop) (ds : List (Option Tmp)) (a0 : Act) (w0 : World) (L : List (Value → World → Prop)) (boxes : List Nat) (i : Nat) (o : Oper) : Prop :=
 ∀ (v : Nat → Value) (a : Act) (w : World), Ext w0 w → (∀ j, (ups md ops i).contains j = true → L.getD j (fun _ _ => True) (v j) w) → Fr ds a0 v a →
  ∀ K : Act → World → Prop, Shut (∀ x w', Ext w w' → L.getD i (fun _ _ => True) x w' → FreshIf (boxes.contains i) x w → K (a.put o.dst x) w') → Oper.wp P o a w K Q
theorem RgL.mk (hg : o.guard = none) (h : OpOk P md ops Q ds a0 w0 L boxes i o) : RgL P md ops Q ds a0 w0 L boxes i o := by
 intro v w hE hd K hK
 rw [if_pos (by simp [Region.wanted, hg])]
 exact h v _ w hE hd (Fr.of ds a0 v) K hK
theorem Fr.yielded {v : Nat → Value} {a : Act} (h : Fr ds a0 v a) (g t : Nat) (b : Bool) (hv : v g = .bool b) (hdst : dstOf ops g = some t) (h1 : ds[g]? = some (some t)) (h2 : (ds.drop (g + 1)).contains (some t) = false) (h3 : decide (t < a0.tmps.size) = true) : yielded ops a.tmps g = some b := by
 have := h.at_ g t h1 h2 h3
 unfold Go.yielded
 unfold dstOf at hdst
 rw [hdst, Option.bind_some, this, hv]
theorem RgL.mkG (g t : Nat) (b : Bool) (hg : o.guard = some (g, b)) (hdst : dstOf ops g = some t) (h1 : ds[g]? = some (some t)) (h2 : (ds.drop (g + 1)).contains (some t) = false) (h3 : decide (t < a0.tmps.size) = true) (hu : (ups md ops i).contains g = true) (hL : ∀ x w, L.getD g (fun _ _ => True) x w → x = .bool b)
  (h : OpOk P md ops Q ds a0 w0 L boxes i o) : RgL P md ops Q ds a0 w0 L boxes i o := by
 intro v w hE hd K hK
 have hy := (Fr.of ds a0 v).yielded (ops := ops) g t b (hL _ _ (hd g hu)) hdst h1 h2 h3
 rw [if_pos (by simp [Region.wanted, hg, hy])]
 exact h v _ w hE hd (Fr.of ds a0 v) K hK
theorem RgL.mkN (g t : Nat) (b : Bool) (hg : o.guard = some (g, !b)) (hdst : dstOf ops g = some t) (h1 : ds[g]? = some (some t)) (h2 : (ds.drop (g + 1)).contains (some t) = false) (h3 : decide (t < a0.tmps.size) = true) (hu : (ups md ops i).contains g = true) (hL : ∀ x w, L.getD g (fun _ _ => True) x w → x = .bool b)
  (hb : boxes.contains i = false) (hi : ∀ w, L.getD i (fun _ _ => True) undef w) : RgL P md ops Q ds a0 w0 L boxes i o := by
 intro v w hE hd K hK
 have hy := (Fr.of ds a0 v).yielded (ops := ops) g t b (hL _ _ (hd g hu)) hdst h1 h2 h3
 rw [if_neg (by cases b <;> simp [Region.wanted, hg, hy])]
 exact hK.out _ _ (Ext.refl _) (hi w) (FreshIf.no hb)
end
end Go.Proofs.YtkeikfekkdplgaaGreatDoor
