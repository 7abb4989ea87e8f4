/-
  NotebookJoins, memory: three boxes filled in a drawn region; a row of cells copied.
-/
import Derived.Test.YtenhciieboegbaaGreatDoorRgj
namespace Go.Proofs.YtenhciieboegbaaGreatDoor
open Go Go.RowKit Go.Maps
/-- Three boxes (made by operations 9, 10, 11; filled by 12, 13, 14): they differ, and hold what was stored. -/
def Jb (X : World) (p : Nat → ByteArray) (listed : Array Bool) (v : Nat → Value) (w : World) : Prop := ∀ j, 9 ≤ j → j ≤ 11 → (listed.getD (j + 3) false = true → listed.getD j false = true) ∧
  (listed.getD j false = true → ∃ g, v j = .pointer (some ⟨g, 0, none⟩) ∧ X.heap.size ≤ g ∧ Bk w g [.string (if listed.getD (j + 3) false then p j else ⟨#[]⟩), .int .i64 0]) ∧
  ∀ i, 9 ≤ i → i ≤ 11 → i ≠ j → listed.getD i false = true → listed.getD j false = true → v i ≠ v j
theorem set_same {l : Array Bool} {i : Nat} (h : i < l.size) : (l.setIfInBounds i true).getD i false = true := by
  simp [Array.getD_eq_getD_getElem?, h]
theorem Jb.start (X : World) (p : Nat → ByteArray) (n : Nat) (v : Nat → Value) (w : World) : Jb X p (Array.replicate n false) v w := fun j _ _ => by
  have h : ∀ k, (Array.replicate n false).getD k false = false := fun k => by
    rw [Array.getD_eq_getD_getElem?, Array.getElem?_replicate]; split <;> rfl
  refine ⟨fun e => ?_, fun e => ?_, fun i _ _ _ e => ?_⟩ <;> (rw [h] at e; cases e)
theorem Jb.plain {X : World} {p : Nat → ByteArray} {listed : Array Bool} {v : Nat → Value} {w w' : World} {i : Nat} (x : Value) (h : Jb X p listed v w) (e : Ext w w') (hi : i ≤ 8) : Jb X p (listed.setIfInBounds i true) (updV v i x) w' := fun j h1 h2 => by
  obtain ⟨a, b, c⟩ := h j h1 h2
  have hu : ∀ k, 9 ≤ k → updV v i x k = v k := fun k hk => if_neg (by omega)
  rw [getD_set_ne' (by omega), getD_set_ne' (by omega), hu j h1]
  refine ⟨a, fun hl => let ⟨g, q1, q2, q3⟩ := b hl; ⟨g, q1, q2, q3.ext e⟩, fun i' k1 k2 k3 => ?_⟩
  rw [getD_set_ne' (by omega), hu i' k1]
  exact c i' k1 k2 k3
theorem Jb.alloc {X : World} {p : Nat → ByteArray} {listed : Array Bool} {v : Nat → Value} {w : World} {i : Nat} {T : TypeId} (h : Jb X p listed v w) (hX : X.heap.size ≤ w.heap.size) (h9 : 9 ≤ i) (h11 : i ≤ 11) (hu : listed.getD i false = false) : Jb X p (listed.setIfInBounds i true) (updV v i (.pointer (some ⟨w.heap.size, 0, none⟩))) (w.alloc (.cells [.string ⟨#[]⟩, .int .i64 0].toArray T)) := fun j h1 h2 => by
  have hB : Bk (w.alloc (.cells [.string ⟨#[]⟩, .int .i64 0].toArray T)) w.heap.size [.string ⟨#[]⟩, .int .i64 0] := by simpa using Bk.new w [.string ⟨#[]⟩, .int .i64 0].toArray T
  have old : ∀ k, 9 ≤ k → k ≤ 11 → listed.getD k false = true → updV v i (.pointer (some ⟨w.heap.size, 0, none⟩)) k = v k ∧ v k ≠ .pointer (some ⟨w.heap.size, 0, none⟩) := fun k k1 k2 hk => by
    have hne : k ≠ i := fun e => by rw [e, hu] at hk; cases hk
    obtain ⟨g, q1, q2, q3⟩ := (h k k1 k2).2.1 hk
    refine ⟨if_neg hne, fun e => ?_⟩
    rw [q1] at e
    have : g = w.heap.size := by injection e with e; injection e with e; injection e
    have := q3.lt
    omega
  have new : updV v i (.pointer (some ⟨w.heap.size, 0, none⟩)) i = .pointer (some ⟨w.heap.size, 0, none⟩) := if_pos rfl
  have ls : ∀ k, k ≠ i → (listed.setIfInBounds i true).getD k false = listed.getD k false := fun k hk => getD_set_ne' (Ne.symm hk) _
  obtain ⟨a, b, c⟩ := h j h1 h2
  have a0 : listed.getD (i + 3) false = false := by
    cases q : listed.getD (i + 3) false
    · rfl
    · have := (h i h9 h11).1 q; rw [hu] at this; cases this
  rw [ls (j + 3) (by omega)]
  by_cases hj : j = i
  · subst hj
    refine ⟨fun q => (by rw [a0] at q; cases q), fun _ => ⟨_, new, hX, by rw [a0]; exact hB⟩, fun k k1 k2 k3 hk _ => ?_⟩
    rw [ls k k3] at hk
    rw [new, (old k k1 k2 hk).1]
    exact (old k k1 k2 hk).2
  · rw [ls j hj]
    refine ⟨a, fun hl => ?_, fun k k1 k2 k3 hk hl => ?_⟩
    · obtain ⟨g, q1, q2, q3⟩ := b hl
      exact ⟨g, by rw [(old j h1 h2 hl).1, q1], q2, q3.ext ((Ext.refl _).alloc _)⟩
    · by_cases hki : k = i
      · subst hki
        rw [new, (old j h1 h2 hl).1]
        exact fun e => (old j h1 h2 hl).2 e.symm
      · rw [ls k hki] at hk
        rw [(old k k1 k2 hk).1, (old j h1 h2 hl).1]
        exact c k k1 k2 k3 hk hl
theorem Jb.store {X : World} {p : Nat → ByteArray} {listed : Array Bool} {v : Nat → Value} {w w' : World} {j g : Nat} (x : Value) (h : Jb X p listed v w) (h9 : 9 ≤ j) (h11 : j ≤ 11) (hl : listed.getD j false = true) (hs : j + 3 < listed.size) (hv : v j = .pointer (some ⟨g, 0, none⟩)) (O : OnlyB g w w') (hB : Bk w' g [.string (p j), .int .i64 0]) : Jb X p (listed.setIfInBounds (j + 3) true) (updV v (j + 3) x) w' := fun k h1 h2 => by
  obtain ⟨a, b, c⟩ := h k h1 h2
  have hu : ∀ k, k ≤ 11 → updV v (j + 3) x k = v k := fun k hk => if_neg (by omega)
  have ls : ∀ k, k ≠ j + 3 → (listed.setIfInBounds (j + 3) true).getD k false = listed.getD k false := fun k hk => getD_set_ne' (Ne.symm hk) _
  rw [ls k (by omega), hu k h2]
  by_cases hk : k = j
  · subst hk
    refine ⟨fun _ => hl, fun _ => ?_, fun i k1 k2 k3 hi _ => ?_⟩
    · obtain ⟨g', q1, q2, q3⟩ := b hl
      rw [hv] at q1
      obtain rfl : g = g' := by injection q1 with e; injection e with e; injection e
      exact ⟨g, hv, q2, by rw [set_same hs]; exact hB⟩
    · rw [ls i (by omega)] at hi
      rw [hu i k2]
      exact c i k1 k2 k3 hi hl
  · rw [ls (k + 3) (by omega)]
    refine ⟨a, fun hlk => ?_, fun i k1 k2 k3 hi hlk => ?_⟩
    · obtain ⟨g', q1, q2, q3⟩ := b hlk
      refine ⟨g', q1, q2, O.bk q3 (fun e => ?_)⟩
      subst e
      exact c j h9 h11 (Ne.symm hk) hl hlk (by rw [hv, q1])
    · rw [ls i (by omega)] at hi
      rw [hu i k2]
      exact c i k1 k2 k3 hi hlk
theorem Jb.box {X : World} {p : Nat → ByteArray} {listed : Array Bool} {v : Nat → Value} {w : World} (j : Nat) (h : Jb X p listed v w) (h9 : 9 ≤ j) (h11 : j ≤ 11) (hl : listed.getD j false = true) : ∃ g s, v j = .pointer (some ⟨g, 0, none⟩) ∧ X.heap.size ≤ g ∧ Bk w g [.string s, .int .i64 0] := by
  obtain ⟨g, h1, h2, h3⟩ := (h j h9 h11).2.1 hl
  exact ⟨g, _, h1, h2, h3⟩
section
variable {P : Program} {ops : Array Oper} {Q : Exit → Act → World → Prop} {ds : List (Option Tmp)} {a0 : Act} {X : World} {L : List (Value → World → Prop)} {p : Nat → ByteArray} {o : Oper}
/-- A store into one of the boxes. -/
theorem RgSj.st (j tp src st : Nat) {T i : Nat} (hT : StV P T 2) (hi : i = j + 3) (h9 : 9 ≤ j) (h11 : j ≤ 11) (hL : L.getD src (fun _ _ => True) = IsV (.agg #[.string (p j), .int .i64 0])) (ho : o.op = .store T (.tmp tp) (.tmp st)) (hdd : o.dst = none) (hn : (needs .any ops i).contains j = true) (hu : (ups .any ops i).contains src = true) (hsz : i < ops.size) (hL3 : ∀ x w, L.getD i (fun _ _ => True) x w)
    (a1 : ds[j]? = some (some tp)) (a2 : (ds.drop (j + 1)).contains (some tp) = false) (a3 : decide (tp < a0.tmps.size) = true) (b1 : ds[src]? = some (some st)) (b2 : (ds.drop (src + 1)).contains (some st) = false) (b3 : decide (st < a0.tmps.size) = true) :
    RgSj P ops Q (fun a b => Ext X a → Ext X b) ds a0 X L (Jb X p) i o := by
  subst hi
  refine ⟨fun listed v w hs hj hR hun hne hd hf K hK => ?_⟩
  have hl : listed.getD j false = true := hne j (List.contains_iff_mem.1 hn)
  obtain ⟨g, s0, hv, hg, hb⟩ := Jb.box j hj h9 h11 hl
  have h1 : (layL v a0 0 ds).eval (.tmp tp) = .pointer (some ⟨g, 0, none⟩) := by rw [eval_tmp, hf.val j tp _ rfl a1 a2 a3, hv]
  have h2 : (layL v a0 0 ds).eval (.tmp st) = .agg [.string (p j), .int .i64 0].toArray := by
    have h := hd src hu
    rw [hL] at h
    rw [eval_tmp, hf.val src st _ rfl b1 b2 b3]
    exact h
  refine stVO (us := [.string (p j), .int .i64 0]) hb hT rfl rfl (nwTx _ _) (fun w' B9 O => ?_) ho hdd h1 h2
  have h := hK.out undef w' (fun _ => O.ext (hR (Ext.refl _)) hg) (Jb.store undef hj h9 h11 hl (by rw [hs]; exact hsz) hv O B9) (hL3 _ _)
  rwa [hdd] at h
end
end Go.Proofs.YtenhciieboegbaaGreatDoor
