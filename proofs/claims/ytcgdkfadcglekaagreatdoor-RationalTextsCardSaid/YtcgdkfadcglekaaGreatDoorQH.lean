/-
  Whether an interval has a number: Has of both packages. Guards that are not known. (Printed by wip/gen/rat12.py, parted by hand.)
-/
import Derived.Test.YtcgdkfadcglekaaGreatDoorQ3
import Derived.Test.YtcgdkfadcglekaaGreatDoorSto
namespace Go.Proofs.YtcgdkfadcglekaaGreatDoor
open Go Go.RowKit
/-- A fact of a guarded operation whose guard is a letter. -/
def IsIf (b : Bool) (Φ : Value → World → Prop) : Value → World → Prop := fun x w => bif b then Φ x w else x = undef
theorem IsIf.stb {b : Bool} {Φ : Value → World → Prop} (h : Stb Φ) : Stb (IsIf b Φ) := fun x w w' e k => by
  cases b
  · exact k
  · exact h x w w' e k
section
variable {P : Program} {ops : Array Oper} {Q : Exit → Act → World → Prop} {ds : List (Option Tmp)} {a0 : Act} {w0 : World} {L : List (Value → World → Prop)} {boxes : List Nat} {i k : Nat} {o : Oper} {os : List Oper}
theorem RcB (g t : Nat) (b pol : Bool) (h : b = pol → Ok P ops Q ds a0 w0 L boxes i o) (hs : RgAll P .any ops Q ds a0 w0 L boxes (i + 1) k os) (hg : o.guard = some (g, pol) := by rfl) (hdst : dstOf ops g = some t := by kernel_rfl) (h1 : ds[g]? = some (some t) := by kernel_rfl) (h2 : (ds.drop (g + 1)).contains (some t) = false := by kernel_rfl) (h3 : decide (t < a0.tmps.size) = true := by kernel_rfl) (hu : (ups .any ops i).contains g = true := by kernel_rfl)
    (hL : L.getD g (fun _ _ => True) = IsV (.bool b) := by kernel_rfl) (hb : boxes.contains i = false := by kernel_rfl) (hi : b = (!pol) → L.getD i (fun _ _ => True) = IsV undef := by intro h; subst h; kernel_rfl) : RgAll P .any ops Q ds a0 w0 L boxes i (k + 1) (o :: os) := by
  refine ⟨?_, hs⟩
  by_cases hbp : b = pol
  · have hL' : L.getD g (fun _ _ => True) = IsV (.bool pol) := by rw [hL, hbp]
    exact RgL.mkG g t pol hg hdst h1 h2 h3 hu (fun _ _ h => by rw [hL'] at h; exact h) (h hbp).out
  · have hbn : b = !pol := by cases b <;> cases pol <;> simp_all
    have hL' : L.getD g (fun _ _ => True) = IsV (.bool (!pol)) := by rw [hL, hbn]
    exact RgL.mkN g t (!pol) (by rw [hg, Bool.not_not]) hdst h1 h2 h3 hu (fun _ _ h => by rw [hL'] at h; exact h) hb (fun _ => by rw [hi hbn]; exact rfl)
theorem un {x : Operand} {u : UnOp} {T : Nat} {p r : Value} (hx : Od ops ds a0 w0 L i x (IsV p)) (ho : o.op = .unOp u T x := by rfl) (hr : ∀ w, Sem.run P (Op.unary u p) w = .ok r w) (hi : L.getD i (fun _ _ => True) = IsV r := by kernel_rfl) (hb : boxes.contains i = false := by kernel_rfl) : Ok P ops Q ds a0 w0 L boxes i o :=
  Ok.of hb fun v a w hE hd hf => by
    have h1 : a.eval x = p := hx.out v a w hE hd hf
    refine ⟨r, ?_, by rw [hi]; exact rfl⟩
    have := hr w
    unfold execOp
    rw [ho]
    dsimp only
    rw [h1]
    simp [this]
theorem pkA {c y : Operand} {b b2 r : Bool} (hc : Od ops ds a0 w0 L i c (IsV (.bool b))) (hy : b = true → Od ops ds a0 w0 L i y (IsV (.bool b2))) (hr : (b && b2) = r) (ho : o.op = .pick c y (.const (.bool false)) := by rfl) (hi : L.getD i (fun _ _ => True) = IsV (.bool r) := by kernel_rfl) (hb : boxes.contains i = false := by kernel_rfl) : Ok P ops Q ds a0 w0 L boxes i o :=
  Ok.of hb fun v a w hE hd hf => by
    have h1 : a.eval c = .bool b := hc.out v a w hE hd hf
    refine ⟨.bool r, ?_, by rw [hi]; exact rfl⟩
    unfold execOp
    rw [ho]
    dsimp only
    rw [h1]
    cases b
    · subst hr; simp [asBool]; rfl
    · have h2 : a.eval y = .bool b2 := (hy rfl).out v a w hE hd hf
      rw [h2]
      subst hr; simp [asBool]
theorem pkO {c y : Operand} {b b2 r : Bool} (hc : Od ops ds a0 w0 L i c (IsV (.bool b))) (hy : b = false → Od ops ds a0 w0 L i y (IsV (.bool b2))) (hr : (b || b2) = r) (ho : o.op = .pick c (.const (.bool true)) y := by rfl) (hi : L.getD i (fun _ _ => True) = IsV (.bool r) := by kernel_rfl) (hb : boxes.contains i = false := by kernel_rfl) : Ok P ops Q ds a0 w0 L boxes i o :=
  Ok.of hb fun v a w hE hd hf => by
    have h1 : a.eval c = .bool b := hc.out v a w hE hd hf
    refine ⟨.bool r, ?_, by rw [hi]; exact rfl⟩
    unfold execOp
    rw [ho]
    dsimp only
    rw [h1]
    cases b
    · have h2 : a.eval y = .bool b2 := (hy rfl).out v a w hE hd hf
      rw [h2]
      subst hr; simp [asBool]
    · subst hr; simp [asBool]; rfl
end

section
variable {ops : Array Oper} {Q : Exit → Act → World → Prop} {ds : List (Option Tmp)} {a0 : Act} {w0 : World} {L : List (Value → World → Prop)} {boxes : List Nat} {i : Nat} {o : Oper}
end

end Go.Proofs.YtcgdkfadcglekaaGreatDoor
