/-
  Integers of package integer: mod. Every two integers of at most 2^27 words, the divisor not 0.
-/
import Derived.Test.YtpflfagjkmeeiaaDoorDivMod
namespace Go.Proofs.YtpflfagjkmeeiaaDoor
open Go Go.RowKit

set_option maxRecDepth 100000 in
theorem mod_c (w : World) (s1 s2 : Bool) (a1 a2 : Option Addr) (n1 n2 c1 c2 k1 k2 : Nat) (z1 z2 : Int) (h1 : IntAt w k1 s1 a1 n1 c1 z1) (h2 : IntAt w k2 s2 a2 n2 c2 z2) (l1 : k1 ≤ 134217728) (l2 : k2 ≤ 134217728) (hz2 : z2 ≠ 0) :
    Calls Tryd.prog 45 #[.agg #[.bool s1, .slice a1 n1 c1], .agg #[.bool s2, .slice a2 n2 c2]] w (RInt w k2 (z1 % z2)) := by
  obtain ⟨W, hW, K0⟩ := kq21 w s1 s2 a1 a2 n1 n2 c1 c2
  have b2 := K0.bx w.heap.size s1 a1 n1 c1 (by simp)
  have b3 := K0.bx (w.heap.size + 1) s2 a2 n2 c2 (by simp)
  have B4 := hid (show Bx W (w.heap.size + 1 + 1) false none 0 0 from K0.bx (w.heap.size + 2) false none 0 0 (by simp))
  have E := hid K0.ext
  have H := hid (DivMod_c W s1 s2 a1 a2 n1 n2 c1 c2 k1 k2 z1 z2 (h1.ext K0.ext) (h2.ext K0.ext) l1 l2 hz2)
  clear K0 h1 h2 hz2
  go_enter Tryd.func45, Tryd.ntmps45
  go_wp2_with fail
  rw [← hW]
  clear hW
  have F1 := b2.c0; have F2 := b2.c1; have F3 := b2.f0; have F4 := b2.f1
  have G1 := b3.c0; have G2 := b3.c1; have G3 := b3.f0; have G4 := b3.f1
  go_wp2_with fail
  refine Calls.mono H.out ?_
  rintro e w1 ⟨s3, a3, n3, c3, s4, a4, n4, c4, rfl, e1, h3, h4⟩
  have B4 := hid (B4.out.ext e1)
  have E := hid (E.out.trans e1)
  clear F1 F2 F3 F4 G1 G2 G3 G4 H b2 b3
  go_upto_region 2 with (fail)
  obtain ⟨X, hX, b5, b6, e2⟩ := bx2 w1 s3 s4 a3 a4 n3 n4 c3 c4
  rw [← hX]; clear hX
  have b4 := B4.out.ext e2
  have E := E.out.trans e2
  have F1 := b6.c0; have F2 := b6.c1; have F3 := b6.f0; have F4 := b6.f1
  have G1 := b4.c0; have G2 := b4.c1; have G3 := b4.f0; have G4 := b4.f1
  go_wp2_with fail
  obtain ⟨X1, hX, P1, P2, P3, P4⟩ := b4.put s4 a4 n4 c4
  rw [← hX]; clear hX
  have T0 := P1.c0; have T1 := P1.c1
  exact bodyPost_ret (v := .agg #[.bool s4, .slice a4 n4 c4]) (by simp [results, Tryd.results45, go_sem, T0, T1]) rfl ⟨_, _, _, _, rfl, P4 E (by omega), (h4.ext e2).gr P3⟩
end Go.Proofs.YtpflfagjkmeeiaaDoor
