/-
  The rule for a region that makes boxes and fills them, where the stores may come early: facts of the values, and of each new box what was stored there. No condition on the program.
  The rule of XRg for a region whose stores may come early: each operation, stores among them, is shown once, in whatever world the others led to; the boxes that are written are read by none. No condition on the program.
-/
import Derived.Test.YtenhciieboegbaaGreatDoorSto
import Derived.Test.YtenhciieboegbaaGreatDoorRwn
namespace Go.Proofs.YtenhciieboegbaaGreatDoor
open Go Go.RowKit

section
variable {P : Program} {ops : Array Oper} {Q : Exit → Act → World → Prop}
abbrev Tg := Option (Nat × List (Value → World → Prop))
variable {ds : List (Option Tmp)} {a0 : Act} {w0 : World} {L : List (Value → World → Prop)} {boxes : List Nat} {tg : List Tg} {i : Nat} {o : Oper}
/-! The rule, its side conditions found by themselves. -/
/-- A store's own fact. -/
abbrev TT : Value → World → Prop := fun _ _ => True
/-! Its rows. -/
variable {os : List Oper} {k : Nat}
end
end Go.Proofs.YtenhciieboegbaaGreatDoor
namespace Go.Proofs.YtenhciieboegbaaGreatDoor
open Go Go.RowKit

section
variable {P : Program} {ops : Array Oper} {Q : Exit → Act → World → Prop}
def StbR (R : World → World → Prop) (p : Value → World → Prop) : Prop := ∀ x w w', R w w' → p x w → p x w'
def AllStbR (R : World → World → Prop) : List (Value → World → Prop) → Prop
  | [] => True
  | p :: ps => StbR R p ∧ AllStbR R ps
theorem AllStbR.get {R : World → World → Prop} : ∀ {L : List (Value → World → Prop)}, AllStbR R L → ∀ i, StbR R (L.getD i (fun _ _ => True))
  | [], _, i => fun _ _ _ _ _ => by simp
  | p :: ps, h, 0 => by simpa using h.1
  | p :: ps, h, i + 1 => by simpa using AllStbR.get h.2 i
def RgLx (P : Program) (ops : Array Oper) (Q : Exit → Act → World → Prop) (R : World → World → Prop) (ds : List (Option Tmp)) (a0 : Act) (w0 : World) (L : List (Value → World → Prop)) (i : Nat) (o : Oper) : Prop :=
  ∀ (v : Nat → Value) (w : World), R w0 w → (∀ j, (ups .any ops i).contains j = true → L.getD j (fun _ _ => True) (v j) w) →
    ∀ K : Act → World → Prop, Shut (∀ x w', R w w' → L.getD i (fun _ _ => True) x w' → K ((layL v a0 0 ds).put o.dst x) w') →
    if Region.wanted o (yielded ops (layL v a0 0 ds).tmps) = true then Oper.wp P o (layL v a0 0 ds) w K Q else K ((layL v a0 0 ds).put o.dst undef) w
variable {R : World → World → Prop} {ds : List (Option Tmp)} {a0 : Act} {w0 : World} {L : List (Value → World → Prop)} {i : Nat} {o : Oper}
theorem RgLx.mk (hg : o.guard = none)
    (h : ∀ (v : Nat → Value) (a : Act) (w : World), R w0 w → (∀ j, (ups .any ops i).contains j = true → L.getD j (fun _ _ => True) (v j) w) → Fr ds a0 v a →
      ∀ K : Act → World → Prop, Shut (∀ x w', R w w' → L.getD i (fun _ _ => True) x w' → K (a.put o.dst x) w') → Oper.wp P o a w K Q) : RgLx P ops Q R ds a0 w0 L i o := by
  intro v w hE hd K hK
  rw [if_pos (by simp [Region.wanted, hg])]
  exact h v _ w hE hd (Fr.of ds a0 v) K hK

end

end Go.Proofs.YtenhciieboegbaaGreatDoor
