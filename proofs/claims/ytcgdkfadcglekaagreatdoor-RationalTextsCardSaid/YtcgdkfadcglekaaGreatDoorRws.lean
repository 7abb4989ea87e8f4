/-
  Rows of words that a call has made, as slices with room: written, read, appended to. No condition.
-/
import Derived.Test.YtcgdkfadcglekaaGreatDoorRow
namespace Go.Proofs.YtcgdkfadcglekaaGreatDoor
open Go Go.RowKit

theorem RowOf.set {e : TypeId} {ok : Value → Prop} {w : World} {base : Nat} {xs : List Value} {g n cap : Nat} (h : RowOf e ok w base (.slice (some ⟨g, 0, none⟩) n cap) xs) (j : Nat) (u : Value) (hu : ok u) :
    RowOf e ok (w.setCell ⟨g, j, none⟩ u) base (.slice (some ⟨g, 0, none⟩) n cap) (xs.set j u) ∧ Below base w (w.setCell ⟨g, j, none⟩ u) := by
  rcases h with ⟨h, rfl⟩ | ⟨g', cap', cur, h1, h2, h3, h4, h5, h6, h7, h8⟩
  · cases h
  · simp only [Value.slice.injEq, Option.some.injEq, Addr.mk.injEq, and_true] at h1
    obtain ⟨rfl, rfl, rfl⟩ := h1
    refine ⟨.inr ⟨g, cap, cur.setIfInBounds j u, by simp, h2, ?_, by simpa using h4, h5, by simpa using h6, ?_, ?_⟩, (Below.refl base w).setCell h2 u⟩
    · simp only [World.setCell, Array.getElem?_modify, if_true]
      rw [h3]
      simp
    · rw [Array.toList_setIfInBounds, List.length_set, List.take_set, h7]
    · intro i v hv
      rw [Array.getElem?_setIfInBounds] at hv
      split at hv
      · split at hv
        · simp at hv; rw [← hv]; exact hu
        · simp at hv
      · exact h8 i v hv

def isU32 (x : Value) : Prop := ∃ n : Nat, x = .int .u32 (n : Int)
theorem RowOf.wd {w : World} {base n cap : Nat} {ao : Option Addr} {xs : List Nat} (h : RowOf 86 isU32 w base (.slice ao n cap) (wcells xs)) (hx : ∀ i, xs.getD i 0 < 4294967296) : Wd w ao n cap xs := by
  have h0 := h
  rcases h with ⟨h, hw⟩ | ⟨g, cap', cur, h1, h2, h3, h4, h5, h6, h7, h8⟩
  · simp only [Value.slice.injEq] at h
    obtain ⟨rfl, rfl, rfl⟩ := h
    have : xs = [] := by simpa [wcells] using hw
    rw [this]; exact wd_nil _ _ _ (by omega)
  · simp only [Value.slice.injEq] at h1
    obtain ⟨rfl, rfl, rfl⟩ := h1
    refine ⟨(wcells_length xs).symm, h4, h5, hx, .inr ⟨g, 0, rfl, heap_lt h3, fun j hj => ?_⟩⟩
    rw [Nat.zero_add]
    exact h0.cell j _ (wcells_getElem? xs j (by rw [wcells_length] at hj; exact hj))

/-- A row of words of the call's own, made since 'base'. -/
def Rw (w : World) (base : Nat) (v : Value) (xs : List Nat) : Prop := RowOf 86 isU32 w base v (wcells xs) ∧ ∀ i, xs.getD i 0 < 4294967296
theorem Rw.ext {w w' : World} {base : Nat} {v : Value} {xs : List Nat} (h : Rw w base v xs) (e : Ext w w') : Rw w' base v xs := ⟨h.1.ext e, h.2⟩
theorem Rw.shape {w : World} {base : Nat} {v : Value} {xs : List Nat} (h : Rw w base v xs) : ∃ ao cap, v = .slice ao xs.length cap ∧ (xs ≠ [] → ∃ g, ao = some ⟨g, 0, none⟩ ∧ base ≤ g ∧ g < w.heap.size) ∧ xs.length ≤ cap ∧ cap ≤ 9223372036854775807 := by
  obtain ⟨ao, cap, h1, h2, h3, h4⟩ := h.1.shape
  rw [wcells_length] at h1 h3
  exact ⟨ao, cap, h1, fun hx => h2 (fun h => hx (List.map_eq_nil_iff.1 h)), h3, h4⟩
theorem Rw.wd {w : World} {base : Nat} {v : Value} {xs : List Nat} (h : Rw w base v xs) : ∃ ao cap, v = .slice ao xs.length cap ∧ Wd w ao xs.length cap xs := by
  obtain ⟨ao, cap, rfl, _⟩ := h.shape
  exact ⟨ao, cap, rfl, h.1.wd h.2⟩
theorem Rw.start (w : World) (base : Nat) (h : base ≤ w.heap.size) : Rw (w.alloc (.cells #[] 86)) base (.slice (some ⟨w.heap.size, 0, none⟩) 0 0) [] :=
  ⟨.inr ⟨w.heap.size, 0, #[], rfl, h, heap_alloc_new _ _, by simp [wcells], by omega, rfl, by simp [wcells], by simp⟩, fun i => by simp⟩
theorem Rw.own {w : World} {g base : Nat} {ys : List Nat} (h : Own w g ys) (hb : base ≤ g) (hx : ∀ i, ys.getD i 0 < 4294967296) (hl : ys.length ≤ 9223372036854775807) : Rw w base (.slice (some ⟨g, 0, none⟩) ys.length ys.length) ys :=
  ⟨.inr ⟨g, ys.length, (wcells ys).toArray, by rw [wcells_length], hb, h, by rw [wcells_length]; omega, hl, by simp [wcells_length], by rw [List.take_of_length_le (by rw [wcells_length]; exact Nat.le_refl _)], fun j u hu => by
    have := List.mem_of_getElem? (by simpa using hu)
    simp only [wcells, List.mem_map] at this
    obtain ⟨y, _, rfl⟩ := this
    exact ⟨y, rfl⟩⟩, hx⟩
theorem wcells_snoc (xs : List Nat) (y : Nat) : wcells xs ++ [.int .u32 (y : Int)] = wcells (xs ++ [y]) := by simp [wcells]

/-- Words with a value: at most k of them. -/
def IsWk (k m : Nat) : Value → World → Prop := fun x w => ∃ a n c xs, x = .slice a n c ∧ Wd w a n c xs ∧ n ≤ k ∧ natVal xs = m
theorem IsWk.gstb (k m : Nat) : GStb (IsWk k m) := fun _ _ _ e ⟨a, n, c, xs, h1, h2, h3⟩ => ⟨a, n, c, xs, h1, h2.gr e, h3⟩
theorem IsWk.stb (k m : Nat) : Stb (IsWk k m) := (IsWk.gstb k m).stb
theorem Rw.isWk {w : World} {base k m : Nat} {v : Value} {xs : List Nat} (h : Rw w base v xs) (hk : xs.length ≤ k) (hm : natVal xs = m) : IsWk k m v w := by
  obtain ⟨ao, cap, rfl, hw⟩ := h.wd
  exact ⟨ao, _, cap, xs, rfl, hw, hk, hm⟩
/-- append([]uint32{}, x...): a row of the call's own. -/
theorem app_row (w : World) (base g : Nat) (ao : Option Addr) (n cap : Nat) (xs : List Nat) (h : Wd w ao n cap xs) (hn : n ≤ 1099511627776) (hr : Rw w base (.slice (some ⟨g, 0, none⟩) 0 0) []) (hbase : base ≤ w.heap.size) (ty : TypeId) :
    ∃ v w', (Builtin.append_ #[22, 22] ty #[.slice (some ⟨g, 0, none⟩) 0 0, .slice ao n cap]).run Tryz.prog w = .ok v w' ∧ Ext w w' ∧ Rw w' base v xs := by
  obtain ⟨i, hi, hz0, hz1, hz2⟩ := info_parts Tryz.infoU32
  have hu : Tryz.prog.underlying 22 = some (.slice 86) := by kernel_rfl
  have hlen := h.len
  rcases Nat.eq_zero_or_pos n with h0 | h0
  · subst h0
    obtain rfl : xs = [] := List.eq_nil_of_length_eq_zero hlen
    have hsrc : Src Tryz.prog i.size 22 (.slice ao 0 cap) 0 [] w := by
      cases ao with
      | none => exact Src.ofNil w hu cap
      | some a => exact Src.ofSlice w hu a 0 cap [] (by simp) (by simp) (fun _ h => by cases h)
    have := run_append_room_src w 22 22 ty 86 i hu hi g 0 0 0 (.slice ao 0 cap) 0 [] hsrc (by omega) (fun j hj => by simp at hj) (fun j hj => by simp at hj)
    exact ⟨_, _, this, Ext.refl w, hr⟩
  · rcases h.at_ with h1 | ⟨b, off, rfl, hb, hc⟩
    · omega
    · have hnews : ∀ j u, (wcells xs)[j]? = some u → w.cell? ((⟨b, off, none⟩ : Addr).add j) = some u := fun j u hj => by
        have hjn : j < n := by
          rcases Nat.lt_or_ge j n with h | h
          · exact h
          · rw [List.getElem?_eq_none (by rw [wcells_length]; omega)] at hj; cases hj
        rw [wcells_getElem? _ _ (by omega)] at hj
        rw [Addr.add_lit, hc j hjn]; exact hj
      have hsrc : Src Tryz.prog i.size 22 (.slice (some ⟨b, off, none⟩) n cap) n (wcells xs) w :=
        Src.ofSlice w hu _ n cap (wcells xs) (by rw [wcells_length, hlen, hz1, Nat.mul_one]) hnews (fun v hv => by
          simp only [wcells, List.mem_map] at hv
          obtain ⟨y, _, rfl⟩ := hv
          rfl)
      have hge := grownCap_ge w n 0 86
      have hle := grownCap_le_maxLen w n 0 86 (by unfold maxLen; omega)
      have hrun := run_append_grow_src w 22 22 ty 86 i (.int .u32 0) hu hi hz0 (some ⟨g, 0, none⟩) 0 0 [] (run_firstCells_some w.drew i.size 0 ⟨g, 0, none⟩ 0 0 [] (by simp) (by simp)) (.slice (some ⟨b, off, none⟩) n cap) n (wcells xs) hsrc
        (by omega) (by omega) (by rw [Nat.zero_add]; exact growslice_fits (by omega) (by rw [hz2]; omega))
      rw [Nat.zero_add] at hrun
      refine ⟨_, _, hrun, (Ext.refl w).drew.alloc _, ⟨.inr ⟨w.heap.size, _, _, by rw [wcells_length, hlen], hbase, heap_alloc_new w.drew _, ?_, ?_, ?_, ?_, ?_⟩, h.lt⟩⟩
      · rw [wcells_length, hlen]; exact hge
      · unfold maxLen at hle; omega
      · simp only [List.nil_append, Array.size_append, List.size_toArray, wcells_length, hlen, size_zeroCells]
        first | (simp [Value.cells]; done) | (simp [Value.cells]; omega)
      · rw [Array.toList_append]; exact List.take_left
      · intro j y hj
        have hmem := List.mem_of_getElem? (by rw [Array.getElem?_toList]; exact hj)
        rw [Array.toList_append] at hmem
        rcases List.mem_append.1 hmem with h | h
        · have h9 : y ∈ wcells xs := by simpa using h
          simp only [wcells, List.mem_map] at h9
          obtain ⟨z, _, rfl⟩ := h9
          exact ⟨z, rfl⟩
        · have hz : (Value.int .u32 0).cells = #[.int .u32 0] := rfl
          rw [hz, toList_zeroCells_one] at h
          rw [(List.mem_replicate.1 h).2]; exact ⟨0, rfl⟩
theorem wpl_app {w : World} {ops : Array Oper} {rest : List Oper} {o : Oper} {a : Act} {Q : Exit → Act → World → Prop} (hgd : o.guard = none) (s x : Operand)
    (ho : o.op = Op.call { callee := Callee.builtin Builtin.append, args := #[s, x], argTypes := #[22, 22] })
    (base g : Nat) (ao : Option Addr) (n cap : Nat) (xs : List Nat) (hs : a.eval s = .slice (some ⟨g, 0, none⟩) 0 0) (hx : a.eval x = .slice ao n cap) (h : Wd w ao n cap xs) (hn : n ≤ 1099511627776) (hr : Rw w base (.slice (some ⟨g, 0, none⟩) 0 0) []) (hbase : base ≤ w.heap.size)
    (hK : ∀ v w', Ext w w' → Rw w' base v xs → wpList Tryz.prog ops Q rest (a.put o.dst v) w') : wpList Tryz.prog ops Q (o :: rest) a w := by
  obtain ⟨v, w', hrun, e, hv⟩ := app_row w base g ao n cap xs h hn hr hbase o.type
  refine wpList_plain hgd fun K hK' => ?_
  unfold Oper.wp
  simp [execOp, ho, resolve, invoke, builtin, hs, hx, hrun, Result.andThen]
  exact hK' _ _ (hK v w' e hv)

/-- Only block g has changed among those that were there; the heap may have grown. -/
def Upd (g : Nat) (w w' : World) : Prop := Below g w w' ∧ ∀ b, b ≠ g → b < w.heap.size → w'.heap[b]? = w.heap[b]?
theorem Upd.refl (g : Nat) (w : World) : Upd g w w := ⟨Below.refl _ _, fun _ _ _ => rfl⟩
theorem Upd.trans {g : Nat} {a b c : World} (h : Upd g a b) (k : Upd g b c) : Upd g a c :=
  ⟨Below.trans h.1 k.1, fun x hx hl => (k.2 x hx (Nat.lt_of_lt_of_le hl (Below.size h.1))).trans (h.2 x hx hl)⟩
theorem Upd.of {g : Nat} {w w' : World} (e : Ext w w') (hg : g ≤ w.heap.size) : Upd g w w' := ⟨Below.mono e hg, fun _ _ hl => Below.block e _ hl⟩
theorem Upd.set (g j : Nat) (w : World) (v : Value) : Upd g w (w.setCell ⟨g, j, none⟩ v) :=
  ⟨(Below.refl g w).setCell (Nat.le_refl _) v, fun _ hb _ => Below.heap_setCell _ _ _ _ hb⟩
theorem Upd.ext {g : Nat} {w0 w w' : World} (u : Upd g w w') (e : Ext w0 w) (hg : w0.heap.size ≤ g) : Ext w0 w' := Below.ext e u.1 hg
theorem Upd.heap {g b : Nat} {w w' : World} {o : Obj} (u : Upd g w w') (hb : b ≠ g) (h : w.heap[b]? = some o) : w'.heap[b]? = some o := by
  rw [u.2 b hb (heap_lt h)]; exact h
theorem Wd.upd {g : Nat} {w w' : World} {ao : Option Addr} {n cap : Nat} {xs : List Nat} (h : Wd w ao n cap xs) (u : Upd g w w') (hb : ∀ b off, ao = some ⟨b, off, none⟩ → b ≠ g) : Wd w' ao n cap xs := by
  refine ⟨h.len, h.capo, h.big, h.lt, h.at_.imp id fun ⟨b, off, h1, h2, h3⟩ => ⟨b, off, h1, Nat.lt_of_lt_of_le h2 (Below.size u.1), fun j hj => ?_⟩⟩
  have h4 := h3 j hj
  have h5 := u.2 b (hb b off h1) h2
  simp only [World.cell?] at h4 ⊢
  rw [h5]; exact h4
theorem Rw.upd {g base : Nat} {w w' : World} {v : Value} {xs : List Nat} (h : Rw w base v xs) (u : Upd g w w') (hb : ∀ b n c, v = .slice (some ⟨b, 0, none⟩) n c → b ≠ g) : Rw w' base v xs := by
  refine ⟨?_, h.2⟩
  rcases h.1 with h1 | ⟨b, cap, cur, rfl, h2, h3, h4⟩
  · exact .inl h1
  · exact .inr ⟨b, cap, cur, rfl, h2, u.heap (hb b _ _ rfl) h3, h4⟩
theorem Bx.upd {g b n c : Nat} {s : Bool} {a : Option Addr} {w w' : World} (h : Bx w b s a n c) (u : Upd g w w') (hb : b ≠ g) : Bx w' b s a n c := by
  have h5 := u.2 b hb h.lt
  obtain ⟨h1, h2, h3, h4⟩ := h
  simp only [World.cell?, World.frozen?] at *
  exact ⟨by simp only [World.cell?]; rw [h5]; exact h1, by simp only [World.cell?]; rw [h5]; exact h2, by simp only [World.frozen?]; rw [h5]; exact h3, by simp only [World.frozen?]; rw [h5]; exact h4⟩
/-- A write of one word. -/
theorem Rw.put {w : World} {base g n cap : Nat} {xs : List Nat} (h : Rw w base (.slice (some ⟨g, 0, none⟩) n cap) xs) (j y : Nat) (hj : j < xs.length) (hy : y < 4294967296) : Rw (w.setCell ⟨g, j, none⟩ (.int .u32 (y : Int))) base (.slice (some ⟨g, 0, none⟩) n cap) (xs.set j y) := by
  refine ⟨?_, fun i => ?_⟩
  · have := (h.1.set j (.int .u32 (y : Int)) ⟨y, rfl⟩).1
    rwa [show (wcells xs).set j (Value.int .u32 (y : Int)) = wcells (xs.set j y) by simp [wcells, List.map_set]] at this
  · rw [getD_set _ _ _ _ hj]; split
    · exact hy
    · exact h.2 i
theorem Rw.cell {w : World} {base g n cap : Nat} {xs : List Nat} (h : Rw w base (.slice (some ⟨g, 0, none⟩) n cap) xs) (j : Nat) (hj : j < xs.length) : w.cell? ⟨g, j, none⟩ = some (.int .u32 ((xs.getD j 0 : Nat) : Int)) := h.1.cell j _ (wcells_getElem? xs j hj)
theorem Rw.free {w : World} {base g n cap : Nat} {xs : List Nat} (h : Rw w base (.slice (some ⟨g, 0, none⟩) n cap) xs) (j : Nat) : w.frozen? ⟨g, j, none⟩ = false := h.1.free j
end Go.Proofs.YtcgdkfadcglekaaGreatDoor
