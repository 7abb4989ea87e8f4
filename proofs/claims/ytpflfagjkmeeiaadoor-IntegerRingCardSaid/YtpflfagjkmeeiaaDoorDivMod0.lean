/-
  Integers of package integer: DivMod by 0. No condition.
-/
import Derived.Test.YtpflfagjkmeeiaaDoorDivMod
namespace Go.Proofs.YtpflfagjkmeeiaaDoor
open Go Go.RowKit

/-- Hands back two zeros and the error for a zero. -/
def RDM0 (w0 : World) (e : Ending) (w' : World) : Prop :=
  e = .returned (.tuple #[.agg #[.bool false, .slice none 0 0], .agg #[.bool false, .slice none 0 0], .int .i64 4]) ∧ Ext w0 w'

theorem DivMod_0 (w : World) (s1 s2 : Bool) (a1 a2 : Option Addr) (n1 c1 c2 : Nat) :
    Calls Tryd.prog 11 #[.agg #[.bool s1, .slice a1 n1 c1], .agg #[.bool s2, .slice a2 0 c2]] w (RDM0 w) := by
  obtain ⟨W, hW, K0⟩ := kq22 w s1 s2 a1 a2 n1 0 c1 c2
  have b3 := K0.bx (w.heap.size + 1) s2 a2 0 c2 (by simp)
  have b4 : Bx W (w.heap.size + 1 + 1) false none 0 0 := K0.bx (w.heap.size + 2) false none 0 0 (by simp)
  have b5 : Bx W (w.heap.size + 1 + 1 + 1) false none 0 0 := K0.bx (w.heap.size + 3) false none 0 0 (by simp)
  have E := hid K0.ext
  clear K0
  go_enter Tryd.func11, Tryd.ntmps11
  go_wp2_with fail
  rw [← hW]
  clear hW
  have L1 := b3.c0; have L2 := b3.c1; have L3 := b3.f0; have L4 := b3.f1
  have F1 := b4.c0; have F2 := b4.c1; have F3 := b4.f0; have F4 := b4.f1
  have G1 := b5.c0; have G2 := b5.c1; have G3 := b5.f0; have G4 := b5.f1
  go_wp2_with fail
  exact bodyPost_ret (v := .tuple #[.agg #[.bool false, .slice none 0 0], .agg #[.bool false, .slice none 0 0], .int .i64 4]) (by simp [results, Tryd.results11, go_sem, F1, F2, G1, G2]) rfl ⟨rfl, E.out⟩
end Go.Proofs.YtpflfagjkmeeiaaDoor
