/-
  Integers of package integer: Bezout. Every two integers of at most 2^26 words. Integers of package integer: power. Every integer and every exponent whose power has at most 2^27 words. cmp.Or of two ints, the second of which is 1. No condition.
-/
import Derived.Test.YtcgdkfadcglekaaGreatDoorBoxes
namespace Go.Proofs.YtcgdkfadcglekaaGreatDoor
/-- What Bezout's loop keeps. -/
structure BzL (w : World) (s1 s2 : Bool) (a1 a2 : Option Addr) (n1 n2 c1 c2 k2 : Nat) (z1 z2 : Int) (g g7 g8 g9 g10 : Nat) (x y u t : Int)
    (sx sy su sd : Bool) (ax ay au ad : Option Addr) (nx ny nu nd cx cy cu cd : Nat) (W : World) : Prop where
  Z : Bz0 w s1 s2 a1 a2 n1 n2 c1 c2 W
  b7 : Bx W g7 sx ax nx cx
  b8 : Bx W g8 sy ay ny cy
  b9 : Bx W g9 su au nu cu
  b10 : Bx W g10 sd ad nd cd
  hx : IntAt W k2 sx ax nx cx x
  hy : IntAt W k2 sy ay ny cy y
  hu : IntAt W k2 su au nu cu u
  ht : IntAt W k2 sd ad nd cd t
  m : BzM z1 z2 g x y u t

def BzI (w : World) (s1 s2 : Bool) (a1 a2 : Option Addr) (n1 n2 c1 c2 k2 : Nat) (z1 z2 : Int) (g g7 g8 g9 g10 gk : Nat) (W : World) : Prop :=
  ∃ x y u t sx sy su sd ax ay au ad nx ny nu nd cx cy cu cd, Int.natAbs y = gk ∧ BzL w s1 s2 a1 a2 n1 n2 c1 c2 k2 z1 z2 g g7 g8 g9 g10 x y u t sx sy su sd ax ay au ad nx ny nu nd cx cy cu cd W
end Go.Proofs.YtcgdkfadcglekaaGreatDoor
namespace Go.Proofs.YtcgdkfadcglekaaGreatDoor
open Go Go.RowKit

/-- What the loop of power keeps: m and p are how often z is a factor of the two boxes' integers. -/
def PwI (w : World) (k n : Nat) (z : Int) (g5 r : Nat) (W : World) : Prop :=
  ∃ m p sb sa ab aa nb na cb ca, m + p * r = n ∧ (1 ≤ r → p ≤ n) ∧ Bx W w.heap.size sb ab nb cb ∧ Bx W (w.heap.size + 1) false none 0 0 ∧ Bx W g5 sa aa na ca ∧ IntAt W (k * p) sb ab nb cb (z ^ p) ∧ IntAt W (k * m + 1) sa aa na ca (z ^ m) ∧ Ext w W

theorem pw_even {m p j n : Nat} (h : m + p * (2 * j) = n) : m + (p + p) * j = n ∧ (1 ≤ j → p + p ≤ n) := by
  have h1 : p * (2 * j) = (p + p) * j := by grind
  rw [h1] at h
  exact ⟨h, fun hj => by have := Nat.le_mul_of_pos_right (p + p) hj; omega⟩
theorem pw_odd {m p j n : Nat} (h : m + p * (2 * j + 1) = n) : (m + p) + (p + p) * j = n ∧ (1 ≤ j → p + p ≤ n) := by
  have h1 : p * (2 * j + 1) = p + (p + p) * j := by grind
  rw [h1] at h
  exact ⟨by omega, fun hj => by have := Nat.le_mul_of_pos_right (p + p) hj; omega⟩
theorem ipow_one (z : Int) : z ^ 1 = z := by rw [show (1 : Nat) = 0 + 1 from rfl, Int.pow_succ, Int.pow_zero, Int.one_mul]

end Go.Proofs.YtcgdkfadcglekaaGreatDoor
namespace Go.Proofs.YtcgdkfadcglekaaGreatDoor
open Go Go.RowKit

theorem Or_c (w : World) (g : Nat) (v : Int) (h0 : w.cell? ⟨g, 0, none⟩ = some (.int .i64 v)) (h1 : w.cell? ⟨g, 1, none⟩ = some (.int .i64 1)) :
    Calls Tryz.prog 102 #[.slice (some ⟨g, 0, none⟩) 2 2] w (RSame w (.int .i64 (if v = 0 then 1 else v))) := by
  obtain ⟨r, hr⟩ : ∃ r, r = (if v = 0 then 1 else v) := ⟨_, rfl⟩
  rw [← hr]
  have Hr := hid hr
  clear hr
  go_enter Tryz.func102, Tryz.ntmps102
  go_wp2_with fail
  go_loop [8] (fun i => ∃ k : Nat, i = .int .i64 k ∧ k ≤ 1 ∧ (k = 1 → v = 0)) (fun i => 2 - (intOf i).toNat)
  case atStart => exact ⟨0, rfl, by omega, by omega⟩
  case round =>
    obtain ⟨k, rfl, hk, hv⟩ := hrel
    rcases Nat.eq_zero_or_pos k with hk0 | hk0
    · subst hk0
      by_cases hv0 : v = 0
      · subst hv0
        go_wp2_with fail
        case roundEnd => exact ⟨⟨1, rfl, by omega, fun _ => trivial⟩, by simp [intOf]⟩
      · have hb : (v == 0) = false := by simpa using hv0
        go_wp2_with fail
        exact bodyPost_ret (v := .int .i64 v) (by simp [results, Tryz.results102, go_sem]) rfl ⟨by rw [Hr.out, if_neg hv0], rfl⟩
    · obtain rfl : k = 1 := by omega
      have hv0 := hv rfl
      subst hv0
      go_wp2_with fail
      exact bodyPost_ret (v := .int .i64 1) (by simp [results, Tryz.results102, go_sem]) rfl ⟨by rw [Hr.out]; simp, rfl⟩
end Go.Proofs.YtcgdkfadcglekaaGreatDoor
