/-
  Plain laws on decimal numerals, and rows of strings that a call itself makes. No condition. Rows that a call itself makes and appends to, one element at a time. No condition.
-/
import Derived.Test.YtenhciieboegbaaGreatDoorRef
import Derived.Lib.ItoaMem
import Derived.Lib.Repeat
namespace Go.Proofs.YtenhciieboegbaaGreatDoor
open Go Go.RowKit

/-- A numeral of exactly k digits, zeros ahead. -/
def padk (k r : Nat) : List UInt8 := List.replicate (k - (Lib.decDigits r).length) 48 ++ Lib.decDigits r
theorem dec_small {r : Nat} (h : r < 10) : Lib.decDigits r = [UInt8.ofNat (48 + r)] := by rw [Lib.decDigits, dif_pos h]
theorem dec_big {r : Nat} (h : ¬ r < 10) : Lib.decDigits r = Lib.decDigits (r / 10) ++ [UInt8.ofNat (48 + r % 10)] := by rw [Lib.decDigits, dif_neg h]
theorem padk_succ (k r : Nat) (hk : 1 ≤ k) : padk k (r / 10) ++ [UInt8.ofNat (48 + r % 10)] = padk (k + 1) r := by
  unfold padk
  by_cases h : r < 10
  · have h0 : r / 10 = 0 := by omega
    rw [h0, dec_small (show 0 < 10 by decide), dec_small h, Nat.mod_eq_of_lt h]
    simp only [List.length_cons, List.length_nil]
    obtain ⟨j, rfl⟩ : ∃ j, k = j + 1 := ⟨k - 1, by omega⟩
    rw [show j + 1 - (0 + 1) = j from by omega, show j + 1 + 1 - (0 + 1) = j + 1 from by omega, List.replicate_succ']
    rfl
  · rw [dec_big h]
    simp only [List.length_append, List.length_cons, List.length_nil]
    rw [show k + 1 - ((Lib.decDigits (r / 10)).length + (0 + 1)) = k - (Lib.decDigits (r / 10)).length from by omega, List.append_assoc]
theorem dec_split (q : Nat) (hq : 0 < q) : ∀ (k r : Nat), r < 10 ^ (k + 1) → Lib.decDigits (q * 10 ^ (k + 1) + r) = Lib.decDigits q ++ padk (k + 1) r
  | 0, r, h => by
    have h1 : r < 10 := by simpa using h
    rw [dec_big (by omega), show (q * 10 ^ (0 + 1) + r) / 10 = q from by omega, show (q * 10 ^ (0 + 1) + r) % 10 = r from by omega]
    unfold padk
    rw [dec_small h1]; rfl
  | k + 1, r, h => by
    have hp : 1 ≤ 10 ^ (k + 1) := Nat.one_le_pow _ _ (by decide)
    have h1 : 10 ≤ q * 10 ^ (k + 1 + 1) := by
      have := Nat.mul_le_mul hq hp
      rw [Nat.pow_succ 10 (k + 1), ← Nat.mul_assoc]; omega
    have hr : r / 10 < 10 ^ (k + 1) := by rw [Nat.pow_succ] at h; omega
    have e : q * 10 ^ (k + 1 + 1) = 10 * (q * 10 ^ (k + 1)) := by rw [Nat.pow_succ]; grind
    rw [dec_big (by omega), show (q * 10 ^ (k + 1 + 1) + r) / 10 = q * 10 ^ (k + 1) + r / 10 from by omega, show (q * 10 ^ (k + 1 + 1) + r) % 10 = r % 10 from by omega,
      dec_split q hq k (r / 10) hr, List.append_assoc, padk_succ (k + 1) r (by omega)]

/-- The numeral of an integer, and the error if it is too long. -/
def textS (z : Int) : List UInt8 := if 1300 < (Lib.itoa z).length then [] else Lib.itoa z
def textE (z : Int) : Int := if 1300 < (Lib.itoa z).length then 2 else 0
theorem itoa_parts (s : Bool) (m : Nat) (z : Int) (h : z = if s then -(m : Int) else m) (t : m = 0 → s = false) : Lib.itoa z = (if s then [45] else []) ++ Lib.decDigits m := by
  cases s
  · simp at h; rw [h, Lib.itoa_nonneg]; simp
  · simp at h t; rw [h, Lib.itoa_neg m (by omega)]; simp
end Go.Proofs.YtenhciieboegbaaGreatDoor
namespace Go.Proofs.YtenhciieboegbaaGreatDoor
open Go Go.RowKit

/-- v is a slice of the call's own, made since 'base': the elements xs, each in one cell; all its cells satisfy ok. -/
def RowOf (e : TypeId) (ok : Value → Prop) (w : World) (base : Nat) (v : Value) (xs : List Value) : Prop :=
  (v = .slice none 0 0 ∧ xs = []) ∨
  ∃ (g cap : Nat) (cur : Array Value), v = .slice (some ⟨g, 0, none⟩) xs.length cap ∧ base ≤ g ∧ w.heap[g]? = some (.cells cur e (0, 0)) ∧ xs.length ≤ cap ∧ cap ≤ 9223372036854775807 ∧ cur.size = cap ∧ cur.toList.take xs.length = xs ∧
    (∀ (j : Nat) (u : Value), cur[j]? = some u → ok u)
theorem RowOf.nil (e : TypeId) (ok : Value → Prop) (w : World) (base : Nat) : RowOf e ok w base (.slice none 0 0) [] := .inl ⟨rfl, rfl⟩
theorem RowOf.ext {e : TypeId} {ok : Value → Prop} {w w' : World} {base : Nat} {v : Value} {xs : List Value} (h : RowOf e ok w base v xs) (k : Ext w w') : RowOf e ok w' base v xs := by
  rcases h with h | ⟨g, cap, cur, h1, h2, h3, h4⟩
  · exact .inl h
  · exact .inr ⟨g, cap, cur, h1, h2, k.heap h3, h4⟩
theorem RowOf.shape {e : TypeId} {ok : Value → Prop} {w : World} {base : Nat} {v : Value} {xs : List Value} (h : RowOf e ok w base v xs) : ∃ ao cap, v = .slice ao xs.length cap ∧ (xs ≠ [] → ∃ g, ao = some ⟨g, 0, none⟩ ∧ base ≤ g ∧ g < w.heap.size) ∧ xs.length ≤ cap ∧ cap ≤ 9223372036854775807 := by
  rcases h with ⟨rfl, rfl⟩ | ⟨g, cap, cur, h1, h2, h3, h4, h5, _⟩
  · exact ⟨none, 0, rfl, fun h => absurd rfl h, by simp, by omega⟩
  · exact ⟨_, cap, h1, fun _ => ⟨g, rfl, h2, heap_lt h3⟩, h4, h5⟩
theorem RowOf.cell {e : TypeId} {ok : Value → Prop} {w : World} {base : Nat} {xs : List Value} {g n cap : Nat} (h : RowOf e ok w base (.slice (some ⟨g, 0, none⟩) n cap) xs) (j : Nat) (u : Value) (hj : xs[j]? = some u) : w.cell? ⟨g, j, none⟩ = some u := by
  rcases h with ⟨h, rfl⟩ | ⟨g', cap', cur, h1, h2, h3, h4, h5, h6, h7, h8⟩
  · simp at hj
  · simp only [Value.slice.injEq, Option.some.injEq, Addr.mk.injEq, and_true] at h1
    obtain ⟨rfl, rfl, rfl⟩ := h1
    have hjl : j < xs.length := (List.getElem?_eq_some_iff.1 hj).1
    simp only [World.cell?]; rw [h3]
    show cur[j]? = some u
    rw [← h7, List.getElem?_take] at hj
    rw [if_pos hjl] at hj
    simpa using hj
theorem RowOf.free {e : TypeId} {ok : Value → Prop} {w : World} {base : Nat} {xs : List Value} {g n cap : Nat} (h : RowOf e ok w base (.slice (some ⟨g, 0, none⟩) n cap) xs) (j : Nat) : w.frozen? ⟨g, j, none⟩ = false := by
  rcases h with ⟨h, rfl⟩ | ⟨g', cap', cur, h1, h2, h3, h4, h5, h6, h7, h8⟩
  · cases h
  · simp only [Value.slice.injEq, Option.some.injEq, Addr.mk.injEq, and_true] at h1
    obtain ⟨rfl, rfl, rfl⟩ := h1
    simp only [World.frozen?]; rw [h3]; simp

theorem Below.ext {base : Nat} {w0 w w' : World} (e : Ext w0 w) (h : Below base w w') (hb : w0.heap.size ≤ base) : Ext w0 w' := Below.trans e (Below.mono h hb)
theorem Below.bx {base : Nat} {w w' : World} (h : Below base w w') {g n c : Nat} {s : Bool} {a : Option Addr} (hg : g < base) (b : Bx w g s a n c) : Bx w' g s a n c := by
  have hc : ∀ j, w'.cell? ⟨g, j, none⟩ = w.cell? ⟨g, j, none⟩ := fun j => by simp only [World.cell?]; rw [h.block g hg]
  have hf : ∀ j, w'.frozen? ⟨g, j, none⟩ = w.frozen? ⟨g, j, none⟩ := fun j => by simp only [World.frozen?]; rw [h.block g hg]
  exact ⟨by rw [hc]; exact b.c0, by rw [hc]; exact b.c1, by rw [hf]; exact b.f0, by rw [hf]; exact b.f1⟩

theorem toList_zeroCells_one (z : Value) (n : Nat) : (Builtin.zeroCells #[z] n).toList = List.replicate n z := by
  simp only [Builtin.zeroCells, Array.toList_map, Array.toList_range]
  apply List.ext_getElem
  · simp
  · intro i h1 h2; simp [Nat.mod_one]
theorem row_append {P : Program} (w : World) (t ty e : TypeId) (ok : Value → Prop) (z : Value) (bytes : Nat) (hu : P.underlying t = some (.slice e)) (hinfo : (P.info? e).map (fun i => (i.zero, i.size, i.bytes)) = some (some z, 1, bytes)) (hz : z.cells = #[z]) (hzo : ok z)
    (base : Nat) (v : Value) (xs : List Value) (hr : RowOf e ok w base v xs) (b c1 : Nat) (u : Value) (hc : w.cell? ⟨b, 0, none⟩ = some u) (h1 : u.oneCell' = true) (huo : ok u) (hlen : (xs.length + 1) * bytes ≤ 140737488355328) (hl2 : xs.length + 1 ≤ 140737488355328) (hbase : base ≤ w.heap.size) :
    ∃ v' w', (Builtin.append_ #[t, t] ty #[v, .slice (some ⟨b, 0, none⟩) 1 c1]).run P w = .ok v' w' ∧ RowOf e ok w' base v' (xs ++ [u]) ∧ Below base w w' ∧ ((∀ x, ok x → NoWord x) → Gr w w') := by
  obtain ⟨i, hi, hz0, hz1, hz2⟩ := info_parts hinfo
  have hsrc : Src P i.size t (.slice (some ⟨b, 0, none⟩) 1 c1) 1 [u] w :=
    Src.ofSlice w hu _ 1 c1 [u] (by rw [hz1]; rfl) (fun j y hj => by
      cases j with
      | zero => simp at hj; subst hj; simpa [Addr.add] using hc
      | succ j => simp at hj) (fun y hy => by simp at hy; subst hy; exact h1)
  have grow : ∀ (ao : Option Addr) (n cap : Nat) (olds : List Value), n = xs.length → olds = xs → cap < n + 1 → (Builtin.firstCells i.size n (.slice ao n cap)).run P w.drew = .ok olds.toArray w.drew →
      ∃ v' w', (Builtin.append_ #[t, t] ty #[.slice ao n cap, .slice (some ⟨b, 0, none⟩) 1 c1]).run P w = .ok v' w' ∧ RowOf e ok w' base v' (xs ++ [u]) ∧ Below base w w' ∧ ((∀ x, ok x → NoWord x) → Gr w w') ∨ ¬ (∀ x ∈ xs, ok x) := by
    intro ao n cap olds hn ho hcap hold
    subst hn ho
    by_cases hok : ∀ x ∈ olds, ok x
    · have hge := grownCap_ge w (olds.length + 1) cap e
      have hle := grownCap_le_maxLen w (olds.length + 1) cap e (by unfold maxLen; omega)
      have hrun := run_append_grow_src w t t ty e i z hu hi hz0 ao olds.length cap olds hold (.slice (some ⟨b, 0, none⟩) 1 c1) 1 [u] hsrc hcap (by omega) (growslice_fits hcap (by rw [hz2]; exact hlen))
      refine ⟨_, _, .inl ⟨hrun, .inr ⟨w.heap.size, _, _, by rw [List.length_append]; rfl, hbase, heap_alloc_new w.drew _, ?_, ?_, ?_, ?_, ?_⟩, ?_, ?_⟩⟩
      · rw [List.length_append]; simpa using hge
      · unfold maxLen at hle; omega
      · rw [Array.size_append]
        simp only [List.size_toArray, List.length_append, List.length_cons, List.length_nil, size_zeroCells, hz]
        simp; omega
      · rw [Array.toList_append]; exact List.take_left
      · intro j y hj
        rw [hz] at hj
        have hmem := List.mem_of_getElem? (by rw [Array.getElem?_toList]; exact hj)
        rw [Array.toList_append, toList_zeroCells_one] at hmem
        rcases List.mem_append.1 hmem with h | h
        · have h9 : y ∈ olds ∨ y = u := by simpa using h
          rcases h9 with h9 | h9
          · exact hok y h9
          · rw [h9]; exact huo
        · rw [(List.mem_replicate.1 h).2]; exact hzo
      · exact Below.mono ((Ext.refl w).drew.alloc _) hbase
      · exact fun _ => ((Ext.refl w).drew.alloc _).gr
    · exact ⟨.slice none 0 0, w, .inr hok⟩
  rcases hr with ⟨rfl, rfl⟩ | ⟨g, cap, cur, rfl, h2, h3, h4, h5, h6, h7, h8⟩
  · obtain ⟨v', w', h | h⟩ := grow none 0 0 [] rfl rfl (by omega) (run_firstCells_none w.drew i.size 0 0 0)
    · exact ⟨v', w', h⟩
    · exact absurd (fun _ h => by cases h) h
  · have hcells : ∀ j y, xs[j]? = some y → w.cell? ⟨g, j, none⟩ = some y := fun j y hj => (RowOf.cell (e := e) (ok := ok) (base := base) (.inr ⟨g, cap, cur, rfl, h2, h3, h4, h5, h6, h7, h8⟩) j y hj)
    have hxok : ∀ x ∈ xs, ok x := fun x hx => by
      rw [← h7] at hx
      obtain ⟨j, hj⟩ := List.mem_iff_getElem?.1 (List.mem_of_mem_take hx)
      exact h8 j x (by simpa using hj)
    by_cases hroom : xs.length + 1 ≤ cap
    · have hfz : ∀ j, w.frozen? ⟨g, j, none⟩ = false := fun j => by simp only [World.frozen?]; rw [h3]; simp
      obtain ⟨y0, hy0⟩ : ∃ y, cur[xs.length]? = some y := ⟨cur[xs.length]'(by omega), by simp⟩
      have hyc : w.cell? ⟨g, xs.length, none⟩ = some y0 := by simp only [World.cell?]; rw [h3]; simpa using hy0
      have hrun := run_append_room_src w t t ty e i hu hi g 0 xs.length cap (.slice (some ⟨b, 0, none⟩) 1 c1) 1 [u] hsrc hroom
        (fun j hj => by
          have : j = 0 := by simpa using hj
          subst this; rw [hz1]; simp [hyc]) (fun j _ => hfz _)
      rw [hz1] at hrun
      simp only [Nat.mul_one, Nat.zero_add, World.setCells] at hrun
      refine ⟨_, _, hrun, .inr ⟨g, cap, cur.setIfInBounds xs.length u, by rw [List.length_append]; rfl, h2, ?_, by rw [List.length_append]; simpa using hroom, h5, by simpa using h6, ?_, ?_⟩, ?_, ?_⟩
      · simp only [World.setCell, Array.getElem?_modify, if_true]
        rw [h3]; simp
      · rw [List.length_append, List.length_cons, List.length_nil, Nat.zero_add, Array.toList_setIfInBounds, List.take_add_one, List.take_set_of_le (Nat.le_refl _), h7]
        rw [List.getElem?_set_self (by simp; omega)]; rfl
      · intro j y hj
        rw [Array.getElem?_setIfInBounds] at hj
        split at hj
        · split at hj
          · cases hj; exact huo
          · cases hj
        · exact h8 j y hj
      · exact Below.setCell (Below.refl base w) h2 u
      · exact fun hnw => (Gr.refl w).set (p := ⟨g, xs.length, none⟩) hyc (hnw _ (h8 _ _ hy0)) u
    · obtain ⟨v', w', h | h⟩ := grow (some ⟨g, 0, none⟩) xs.length cap xs rfl rfl (by omega) (run_firstCells_some w.drew i.size xs.length ⟨g, 0, none⟩ xs.length cap xs (by rw [hz1, Nat.mul_one]) (fun j y hj => by
        have := hcells j y hj
        by_cases hj0 : j = 0
        · subst hj0; simpa [Addr.add] using this
        · simpa [Addr.add, hj0] using this))
      · exact ⟨v', w', h⟩
      · exact absurd hxok h

/-- The step of a walk: v = append(v, u). -/
theorem wpl_row {P : Program} {w : World} {ops : Array Oper} {rest : List Oper} {o : Oper} {a : Act} {Q : Exit → Act → World → Prop} (hgd : o.guard = none) (s x : Operand) (t e : TypeId)
    (ho : o.op = .call { callee := .builtin .append, args := #[s, x], argTypes := #[t, t] }) (ok : Value → Prop) (z : Value) (bytes : Nat) (hu : P.underlying t = some (.slice e)) (hinfo : (P.info? e).map (fun i => (i.zero, i.size, i.bytes)) = some (some z, 1, bytes)) (hz : z.cells = #[z]) (hzo : ok z)
    (base : Nat) (v : Value) (xs : List Value) (hs : a.eval s = v) (hr : RowOf e ok w base v xs) (b c1 : Nat) (u : Value) (hx : a.eval x = .slice (some ⟨b, 0, none⟩) 1 c1) (hc : w.cell? ⟨b, 0, none⟩ = some u) (h1 : u.oneCell' = true) (huo : ok u) (hlen : (xs.length + 1) * bytes ≤ 140737488355328) (hl2 : xs.length + 1 ≤ 140737488355328) (hbase : base ≤ w.heap.size)
    (hK : ∀ v' w', RowOf e ok w' base v' (xs ++ [u]) → Below base w w' → ((∀ x, ok x → NoWord x) → Gr w w') → wpList P ops Q rest (a.put o.dst v') w') : wpList P ops Q (o :: rest) a w := by
  obtain ⟨v', w', hrun, h2, h3, h4⟩ := row_append w t o.type e ok z bytes hu hinfo hz hzo base v xs hr b c1 u hc h1 huo hlen hl2 hbase
  refine wpList_plain hgd fun K hK' => ?_
  unfold Oper.wp
  simp [execOp, ho, resolve, invoke, builtin, hs, hx, hrun, Result.andThen]
  exact hK' _ _ (hK v' w' h2 h3 h4)
end Go.Proofs.YtenhciieboegbaaGreatDoor
