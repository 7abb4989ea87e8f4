/-
 The rule of XRg for a region whose stores may come early: each operation, stores among them, is shown once, in whatever world the others led to; the boxes that are written are read by none. No condition on the program.
-/
import Derived.Test.YtkeikfekkdplgaaGreatDoorRFact
import Derived.Test.YtkeikfekkdplgaaGreatDoorRgm
namespace Go.Proofs.YtkeikfekkdplgaaGreatDoor
open Go Go.RowKit

section
variable {P : Program} {ops : Array Oper} {Q : Exit → Act → World → Prop}
def StbR (R : World → World → Prop) (p : Value → World → Prop) : Prop := ∀ x w w', R w w' → p x w → p x w'
def AllStbR (R : World → World → Prop) : List (Value → World → Prop) → Prop
 | [] => True
 | p :: ps => StbR R p ∧ AllStbR R ps
theorem AllStbR.get {R : World → World → Prop} : ∀ {L : List (Value → World → Prop)}, AllStbR R L → ∀ i, StbR R (L.getD i (fun _ _ => True))
 | [], _, i => fun _ _ _ _ _ => by simp
 | p :: ps, h, 0 => by simpa using h.1
 | p :: ps, h, i + 1 => by simpa using AllStbR.get h.2 i
def RgLx (P : Program) (ops : Array Oper) (Q : Exit → Act → World → Prop) (R : World → World → Prop) (ds : List (Option Tmp)) (a0 : Act) (w0 : World) (L : List (Value → World → Prop)) (i : Nat) (o : Oper) : Prop :=
 ∀ (v : Nat → Value) (w : World), R w0 w → (∀ j, (ups .any ops i).contains j = true → L.getD j (fun _ _ => True) (v j) w) →
  ∀ K : Act → World → Prop, Shut (∀ x w', R w w' → L.getD i (fun _ _ => True) x w' → K ((layL v a0 0 ds).put o.dst x) w') →
  if Region.wanted o (yielded ops (layL v a0 0 ds).tmps) = true then Oper.wp P o (layL v a0 0 ds) w K Q else K ((layL v a0 0 ds).put o.dst undef) w
def RgAllx (P : Program) (ops : Array Oper) (Q : Exit → Act → World → Prop) (R : World → World → Prop) (ds : List (Option Tmp)) (a0 : Act) (w0 : World) (L : List (Value → World → Prop)) : Nat → Nat → List Oper → Prop
 | _, 0, _ => True
 | _, _ + 1, [] => True
 | i, k + 1, o :: os => RgLx P ops Q R ds a0 w0 L i o ∧ RgAllx P ops Q R ds a0 w0 L (i + 1) k os
variable {R : World → World → Prop} {ds : List (Option Tmp)} {a0 : Act} {w0 : World} {L : List (Value → World → Prop)} {i : Nat} {o : Oper}
theorem RgAllx.get : ∀ (k i : Nat) (os : List Oper), RgAllx P ops Q R ds a0 w0 L i k os → ∀ j, j < k → ∀ o, os[j]? = some o → RgLx P ops Q R ds a0 w0 L (i + j) o
 | 0, _, _, _, j, h, _, _ => by omega
 | _ + 1, _, [], _, _, _, _, ho => by simp at ho
 | k + 1, i, o :: os, h, 0, _, o', ho => by simp at ho; subst ho; exact h.1
 | k + 1, i, o :: os, h, j + 1, hj, o', ho => by
  have := RgAllx.get k (i + 1) os h.2 j (by omega) o' (by simpa using ho)
  rwa [show i + (j + 1) = i + 1 + j by omega]
theorem RgAllx.nil {os : List Oper} : RgAllx P ops Q R ds a0 w0 L i 0 os := by cases os <;> trivial
theorem RgAllx.cons {k : Nat} {os : List Oper} (h : RgLx P ops Q R ds a0 w0 L i o) (hs : RgAllx P ops Q R ds a0 w0 L (i + 1) k os) : RgAllx P ops Q R ds a0 w0 L i (k + 1) (o :: os) := ⟨h, hs⟩
theorem RgLx.mk (hg : o.guard = none)
  (h : ∀ (v : Nat → Value) (a : Act) (w : World), R w0 w → (∀ j, (ups .any ops i).contains j = true → L.getD j (fun _ _ => True) (v j) w) → Fr ds a0 v a →
   ∀ K : Act → World → Prop, Shut (∀ x w', R w w' → L.getD i (fun _ _ => True) x w' → K (a.put o.dst x) w') → Oper.wp P o a w K Q) : RgLx P ops Q R ds a0 w0 L i o := by
 intro v w hE hd K hK
 rw [if_pos (by simp [Region.wanted, hg])]
 exact h v _ w hE hd (Fr.of ds a0 v) K hK

theorem wp_region_rgx (R : World → World → Prop) (n : Nat) (ds : List (Option Tmp)) (L : List (Value → World → Prop)) {id : Nat}
  (hm : P.follows .mixedOrders = true) (hn : decide (n ≤ ops.size) = true) (hds : (List.range n).map (dstOf ops) = ds) (hap : dstsApart ops n = true) (htp : twoParts .any ops n [] = true) (hns : Region.noSelect ops = true)
  (hRt : ∀ {a b c}, R a b → R b c → R a c) (hRe : ∀ {a b}, Ext a b → R a b)
  (hst : AllStbR R L)
  (hop : RgAllx P ops Q R ds a0 w0 L 0 n ops.toList)
  (hend : ∀ v w, R w0 w → (∀ i, i < n → L.getD i (fun _ _ => True) (v i) w) → wpAny P .any ops Q (ops.size - n) (firstN ops.size n) (layL v a0 0 ds) w) :
  (Code.region id ops true).wp P Q a0 w0 := by
 refine wp_region_any hm ?_
 have hE : R w0 w0.drew := hRe (Ext.refl w0).drew
 have hD : ∀ m, doneN (Array.replicate ops.size false) m = 0 := fun m => by
  unfold doneN
  rw [List.countP_eq_zero.2]
  intro i _
  simp [listed_false]
 have key : ∀ m, m ≤ n → AllOps (fun i => ∀ o, ops[i]? = some o → RgOp P .any ops Q n a0 w0.drew R (fun i => L.getD i (fun _ _ => True)) [] i o) m := by
  intro m
  induction m with
  | zero => intro _; trivial
  | succ m ih =>
   intro hm
   refine ⟨ih (by omega), fun o ho v w hR hd K hK => ?_⟩
   have := RgAllx.get n 0 ops.toList hop m (by omega) o (by simpa using ho)
   rw [Nat.zero_add] at this
   have := this v w (hRt hE hR) hd K
   rw [← layN_layL v a0 n ds hds] at this
   exact this (fun x w' hR hL => Shut.out hK x w' hR hL (fun h => by simp at h))
 have := rg_main n [] [] R (fun i => L.getD i (fun _ _ => True)) [] (w0 := w0.drew) (a0 := a0) (of_decide_eq_true hn) hap htp (by simp [optOk, hns])
  (by simp) hRt (fun i _ => hst.get i) (fun i _ hi => by simp at hi) (key n (Nat.le_refl _))
  (fun v w hR hΦ _ => by
   rw [layN_layL v a0 n ds hds]
   exact hend v w (hRt hE hR) hΦ)
  ops.size (Array.replicate ops.size false) (slotVal ops a0) w0.drew (by simp) (fun j _ => by simp [listed_false]) (by rw [hD]; rfl)
  (fun i hi => by simp [listed_false] at hi) (hRe (Ext.refl _)) (by simp) (fun i hi h => by simp [listed_false] at h) (fun i j _ _ _ h => by simp at h)
 have hlay : layN ops (slotVal ops a0) a0 n = a0 := layN_self a0 n
 rwa [hlay] at this
end

end Go.Proofs.YtkeikfekkdplgaaGreatDoor
