/-
  Integers of package integer: Parse at the string -0. No condition. The rule of XRg with a letter for the frame: an operation is shown by what its operands hold. No condition on the program.
-/
import Derived.Test.YtcgdkfadcglekaaGreatDoorText
namespace Go.Proofs.YtcgdkfadcglekaaGreatDoor
open Go Go.RowKit

end Go.Proofs.YtcgdkfadcglekaaGreatDoor
namespace Go.Proofs.YtcgdkfadcglekaaGreatDoor
open Go Go.RowKit
section
variable {P : Program} {md : Region.Mode} {ops : Array Oper} {Q : Exit → Act → World → Prop}

theorem size_put (a : Act) (d : Option Tmp) (x : Value) : (a.put d x).tmps.size = a.tmps.size := by
  cases d <;> simp [Act.put]
theorem layL_old (v : Nat → Value) (t : Nat) : ∀ (ds : List (Option Tmp)) (a : Act) (k : Nat), ds.contains (some t) = false → (layL v a k ds).tmps[t]? = a.tmps[t]?
  | [], _, _, _ => rfl
  | d :: ds, a, k, h => by
    simp only [List.contains_cons, Bool.or_eq_false_iff, beq_eq_false_iff_ne] at h
    rw [layL, layL_old v t ds _ (k + 1) h.2]
    cases d with
    | none => rfl
    | some u =>
      simp only [Act.put]
      rw [Array.getElem?_setIfInBounds_ne]
      intro he; exact h.1 (by rw [he])
theorem layL_at (v : Nat → Value) (t : Nat) : ∀ (ds : List (Option Tmp)) (a : Act) (k j : Nat), ds[j]? = some (some t) → (ds.drop (j + 1)).contains (some t) = false → t < a.tmps.size → (layL v a k ds).tmps[t]? = some (v (k + j))
  | [], _, _, _, h, _, _ => by simp at h
  | d :: ds, a, k, 0, h, hn, ht => by
    simp only [List.getElem?_cons_zero, Option.some.injEq] at h
    subst h
    rw [layL, layL_old v t ds _ (k + 1) (by simpa using hn)]
    simp only [Act.put]
    rw [Array.getElem?_setIfInBounds_self_of_lt ht]; rfl
  | d :: ds, a, k, j + 1, h, hn, ht => by
    rw [layL, layL_at v t ds _ (k + 1) j (by simpa using h) (by simpa using hn) (by rw [size_put]; exact ht)]
    congr 2; omega

/-- What a letter for the frame holds. -/
structure Fr (ds : List (Option Tmp)) (a0 : Act) (v : Nat → Value) (a : Act) : Prop where
  at_ : ∀ j t, ds[j]? = some (some t) → (ds.drop (j + 1)).contains (some t) = false → decide (t < a0.tmps.size) = true → a.tmps[t]? = some (v j)
  old : ∀ t, ds.contains (some t) = false → a.tmps[t]? = a0.tmps[t]?
theorem Fr.of (ds : List (Option Tmp)) (a0 : Act) (v : Nat → Value) : Fr ds a0 v (layL v a0 0 ds) :=
  ⟨fun j t h hn ht => by have := layL_at v t ds a0 0 j h hn (of_decide_eq_true ht); rwa [Nat.zero_add] at this, fun t h => layL_old v t ds a0 0 h⟩
theorem Fr.val {ds : List (Option Tmp)} {a0 : Act} {v : Nat → Value} {a : Act} (h : Fr ds a0 v a) (j t : Nat) (x : Value) (hd : v j = x) (h1 : ds[j]? = some (some t)) (h2 : (ds.drop (j + 1)).contains (some t) = false) (h3 : decide (t < a0.tmps.size) = true) : a.tmps[t]?.getD undef = x := by
  have := h.at_ j t h1 h2 h3
  simp [this, hd]
theorem Fr.lit {ds : List (Option Tmp)} {a0 : Act} {v : Nat → Value} {a : Act} (h : Fr ds a0 v a) (t : Nat) (x : Value) (h1 : ds.contains (some t) = false) (h2 : a0.tmps[t]? = some x) : a.tmps[t]?.getD undef = x := by
  have := (h.old t h1).trans h2
  simp [this]

variable {ds : List (Option Tmp)} {a0 : Act} {w0 : World} {L : List (Value → World → Prop)} {boxes : List Nat} {i : Nat} {o : Oper}
/-- What is to be shown of an operation, the frame a letter. -/
def OpOk (P : Program) (md : Region.Mode) (ops : Array Oper) (Q : Exit → Act → World → Prop) (ds : List (Option Tmp)) (a0 : Act) (w0 : World) (L : List (Value → World → Prop)) (boxes : List Nat) (i : Nat) (o : Oper) : Prop :=
  ∀ (v : Nat → Value) (a : Act) (w : World), Ext w0 w → (∀ j, (ups md ops i).contains j = true → L.getD j (fun _ _ => True) (v j) w) → Fr ds a0 v a →
    ∀ K : Act → World → Prop, Shut (∀ x w', Ext w w' → L.getD i (fun _ _ => True) x w' → FreshIf (boxes.contains i) x w → K (a.put o.dst x) w') → Oper.wp P o a w K Q
theorem RgL.mk (hg : o.guard = none) (h : OpOk P md ops Q ds a0 w0 L boxes i o) : RgL P md ops Q ds a0 w0 L boxes i o := by
  intro v w hE hd K hK
  rw [if_pos (by simp [Region.wanted, hg])]
  exact h v _ w hE hd (Fr.of ds a0 v) K hK
theorem Fr.yielded {v : Nat → Value} {a : Act} (h : Fr ds a0 v a) (g t : Nat) (b : Bool) (hv : v g = .bool b) (hdst : dstOf ops g = some t) (h1 : ds[g]? = some (some t)) (h2 : (ds.drop (g + 1)).contains (some t) = false) (h3 : decide (t < a0.tmps.size) = true) : yielded ops a.tmps g = some b := by
  have := h.at_ g t h1 h2 h3
  unfold Go.yielded
  unfold dstOf at hdst
  rw [hdst, Option.bind_some, this, hv]
theorem RgL.mkG (g t : Nat) (b : Bool) (hg : o.guard = some (g, b)) (hdst : dstOf ops g = some t) (h1 : ds[g]? = some (some t)) (h2 : (ds.drop (g + 1)).contains (some t) = false) (h3 : decide (t < a0.tmps.size) = true) (hu : (ups md ops i).contains g = true) (hL : ∀ x w, L.getD g (fun _ _ => True) x w → x = .bool b)
    (h : OpOk P md ops Q ds a0 w0 L boxes i o) : RgL P md ops Q ds a0 w0 L boxes i o := by
  intro v w hE hd K hK
  have hy := (Fr.of ds a0 v).yielded (ops := ops) g t b (hL _ _ (hd g hu)) hdst h1 h2 h3
  rw [if_pos (by simp [Region.wanted, hg, hy])]
  exact h v _ w hE hd (Fr.of ds a0 v) K hK
theorem RgL.mkN (g t : Nat) (b : Bool) (hg : o.guard = some (g, !b)) (hdst : dstOf ops g = some t) (h1 : ds[g]? = some (some t)) (h2 : (ds.drop (g + 1)).contains (some t) = false) (h3 : decide (t < a0.tmps.size) = true) (hu : (ups md ops i).contains g = true) (hL : ∀ x w, L.getD g (fun _ _ => True) x w → x = .bool b)
    (hb : boxes.contains i = false) (hi : ∀ w, L.getD i (fun _ _ => True) undef w) : RgL P md ops Q ds a0 w0 L boxes i o := by
  intro v w hE hd K hK
  have hy := (Fr.of ds a0 v).yielded (ops := ops) g t b (hL _ _ (hd g hu)) hdst h1 h2 h3
  rw [if_neg (by cases b <;> simp [Region.wanted, hg, hy])]
  exact hK.out _ _ (Ext.refl _) (hi w) (FreshIf.no hb)
end
end Go.Proofs.YtcgdkfadcglekaaGreatDoor
