/-
  Rows of words that a call itself has made ('Own'): made, copied into, read, written. No condition.
-/
import Derived.Test.YtpflfagjkmeeiaaDoorProg
import Derived.Test.YtpflfagjkmeeiaaDoorBase
import Derived.Laws.CopyOwn
import Derived.WalkLawsBesides
import Derived.WalkSpells
namespace Go.Proofs.YtpflfagjkmeeiaaDoor
open Go Go.RowKit

theorem Tryd.infoU32 : (Tryd.prog.info? 66).map (fun i => (i.zero, i.size, i.bytes)) = some (some (.int .u32 0), 1, 4) := by kernel_rfl
theorem Tryd.sizeU32 : (Tryd.prog.info? 66).map (·.size) = some 1 := by kernel_rfl

def wcells (ys : List Nat) : List Value := ys.map (fun (y : Nat) => Value.int .u32 (y : Int))
theorem wcells_length (ys : List Nat) : (wcells ys).length = ys.length := by simp [wcells]
theorem wcells_getElem? (ys : List Nat) (i : Nat) (h : i < ys.length) : (wcells ys)[i]? = some (.int .u32 ((ys.getD i 0 : Nat) : Int)) := by
  simp [wcells, List.getD, h]

/-- Block g is a row of the words ys. -/
def Own (w : World) (g : Nat) (ys : List Nat) : Prop := w.heap[g]? = some (.cells (wcells ys).toArray 66 (0, 0))

theorem Own.lt {w : World} {g : Nat} {ys : List Nat} (h : Own w g ys) : g < w.heap.size := by
  rcases Nat.lt_or_ge g w.heap.size with h1 | h1
  · exact h1
  · unfold Own at h; simp [Array.getElem?_eq_none h1] at h
theorem Own.cell {w : World} {g : Nat} {ys : List Nat} (h : Own w g ys) (i : Nat) (hi : i < ys.length) : w.cell? ⟨g, i, none⟩ = some (.int .u32 ((ys.getD i 0 : Nat) : Int)) := by
  have := wcells_getElem? ys i hi
  simp only [World.cell?]
  rw [h]
  simpa using this
theorem Own.free {w : World} {g : Nat} {ys : List Nat} (h : Own w g ys) (i : Nat) : w.frozen? ⟨g, i, none⟩ = false := by
  simp only [World.frozen?]
  rw [h]
  simp
theorem Own.set {w : World} {g : Nat} {ys : List Nat} (h : Own w g ys) (i y : Nat) : Own (w.setCell ⟨g, i, none⟩ (.int .u32 (y : Int))) g (ys.set i y) := by
  unfold Own at *
  simp only [World.setCell, Array.getElem?_modify, if_true]
  rw [h]
  simp [wcells, List.map_set]
theorem Own.ext {w w' : World} {g : Nat} {ys : List Nat} (h : Own w g ys) (e : Ext w w') : Own w' g ys := by
  have := Below.block e g h.lt
  unfold Own at *
  rw [this]; exact h
theorem Own.drew {w : World} {g : Nat} {ys : List Nat} (h : Own w g ys) : Own w.drew g ys := h
theorem Own.alloc {w : World} {g : Nat} {ys : List Nat} (h : Own w g ys) (o : Obj) : Own (w.alloc o) g ys := h.ext ((Ext.refl w).alloc o)
theorem Own.wd {w : World} {g : Nat} {ys : List Nat} (h : Own w g ys) (hl : ∀ i, ys.getD i 0 < 4294967296) (cap : Nat) (hc : ys.length ≤ cap) (hb : cap ≤ 140737488355328) :
    Wd w (some ⟨g, 0, none⟩) ys.length cap ys :=
  ⟨rfl, hc, Nat.le_trans hb (by decide), hl, .inr ⟨g, 0, rfl, h.lt, fun j hj => by rw [Nat.zero_add]; exact h.cell j hj⟩⟩

theorem wcells_replicate (n : Nat) : wcells (List.replicate n 0) = List.replicate n (.int .u32 0) := by simp [wcells]

/-- make([]uint32, n) -/
theorem wpl_make {w : World} {ops : Array Oper} {rest : List Oper} {o : Oper} {a : Act} {Q : Exit → Act → World → Prop}
    (hg : o.guard = none) (l c : Operand) (t : TypeId) (hop : o.op = Op.makeSlice t l c) (ht : Tryd.prog.underlying t = some (.slice 66))
    (L C : Int) (n : Nat) (hl : a.eval l = .int .i64 L) (hc : a.eval c = .int .i64 C) (hL : L = (n : Int)) (hC : C = (n : Int)) (hn : n ≤ 1099511627776)
    (hK : ∀ w', Ext w w' → w.heap.size < w'.heap.size → Own w' w.heap.size (List.replicate n 0) → wpList Tryd.prog ops Q rest (a.put o.dst (.slice (some ⟨w.heap.size, 0, none⟩) n n)) w') :
    wpList Tryd.prog ops Q (o :: rest) a w := by
  obtain ⟨i, hi, hz0, hz1, hz2⟩ := info_parts Tryd.infoU32
  refine wpList_make_full w hg l c t hop w.heap.size 66 i (.int .u32 0) 1 ht hi hz0 hz1 .i64 .i64 L C n hl hc hL hC (by rw [hz2]; omega) (by unfold maxLen; omega) (Nat.le_refl _) ?_
  intro w' hown hgr
  have hcur := hown
  obtain ⟨hlen, h1 | ⟨g, cap, cur, h2, h3, h4, h5, h6, h7, h8⟩⟩ := hown
  · simp at h1
  · simp only [Value.slice.injEq, Option.some.injEq, Addr.mk.injEq, and_true, true_and] at h2
    obtain ⟨h2, rfl⟩ := h2
    subst h2
    have hown' : Own w' w.heap.size (List.replicate n 0) := by
      unfold Own
      rw [h4, wcells_replicate]
      have e1 : cur.toList = List.replicate n (.int .u32 0) := by
        rw [List.take_of_length_le (by simp; omega)] at h8
        rw [h8, show (Value.int IntKind.u32 0).cells = #[.int .u32 0] from rfl, toList_madeCells_one]
        simp
      rw [← e1]
    refine hK w' ?_ hown'.lt hown'
    exact ⟨hgr.os, hgr.tape, hgr.output, hgr.size, fun k hk => hgr.block k hk (by simp)⟩

/-- copy(out, a), out a row of the call's own that is long enough. -/
theorem wpl_copy {w : World} {ops : Array Oper} {rest : List Oper} {o : Oper} {a : Act} {Q : Exit → Act → World → Prop} (w0 : World)
    (hgd : o.guard = none) (d s : Operand) (dT sT : TypeId)
    (ho : o.op = .call { callee := .builtin .copy, args := #[d, s], argTypes := #[dT, sT] }) (hu : Tryd.prog.underlying dT = some (.slice 66))
    (g N : Nat) (ao : Option Addr) (n cap : Nat) (hd : a.eval d = .slice (some ⟨g, 0, none⟩) N N) (hs : a.eval s = .slice ao n cap)
    (ys xs : List Nat) (hown : Own w g ys) (hN : ys.length = N) (hx : Wd w ao n cap xs) (hnN : n ≤ N) (he : Ext w0 w) (hg : w0.heap.size ≤ g)
    (hK : ∀ w', Own w' g (xs ++ ys.drop n) → Ext w0 w' → wpList Tryd.prog ops Q rest (a.put o.dst (.int .i64 n)) w') :
    wpList Tryd.prog ops Q (o :: rest) a w := by
  have hlen := hx.len
  refine wpList_copy_splice hgd d s dT sT ho 66 hu Tryd.sizeU32 _ _ _ _ _ _ hd hs g 0 (wcells ys) 66 hown (wcells xs) ?_ ?_ ?_ ?_ w0.heap.size w0 he hg ?_
  · rw [wcells_length, hlen]; exact (Nat.min_eq_left hnN).symm
  · intro hpos
    refine ⟨rfl, ?_⟩
    rw [wcells_length, hlen] at hpos
    rcases hx.at_ with h0 | ⟨b, off, h1, h2, h3⟩
    · omega
    · refine ⟨_, h1, fun j v hj => ?_⟩
      have hjn : j < n := by
        rcases Nat.lt_or_ge j n with h | h
        · exact h
        · rw [List.getElem?_eq_none (by rw [wcells_length]; omega)] at hj; cases hj
      rw [wcells_getElem? _ _ (by omega)] at hj
      have := h3 j hjn
      rw [hj] at this
      by_cases hj0 : j = 0
      · subst hj0; simpa [Addr.add] using this
      · simpa [Addr.add, hj0] using this
  · rw [wcells_length, wcells_length]; omega
  · intro v hv
    simp only [wcells, List.mem_map] at hv
    obtain ⟨y, _, rfl⟩ := hv
    rfl
  · intro w' h1 h2
    rw [wcells_length, hlen]
    refine hK w' ?_ h2
    have h1' := h1.out
    unfold Own
    rw [h1']
    simp [splice, wcells, hlen]

/-- A new row of one word. -/
theorem wd_new1 (w : World) (r : Nat) (hr : r < 4294967296) : Wd (w.alloc (.cells #[.int .u32 (r : Nat)] 66)) (some ⟨w.heap.size, 0, none⟩) 1 1 [r] := by
  have ho : Own (w.alloc (.cells #[.int .u32 (r : Nat)] 66)) w.heap.size [r] := by
    show (w.heap.push _)[w.heap.size]? = _
    simp [wcells]
  have := ho.wd (fun i => by cases i <;> simp [hr]) 1 (by simp) (by omega)
  simpa using this
end Go.Proofs.YtpflfagjkmeeiaaDoor
