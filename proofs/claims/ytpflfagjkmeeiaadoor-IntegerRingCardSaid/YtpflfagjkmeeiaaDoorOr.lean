/-
  cmp.Or of two ints, the second of which is 1. No condition.
-/
import Derived.Test.YtpflfagjkmeeiaaDoorPower
namespace Go.Proofs.YtpflfagjkmeeiaaDoor
open Go Go.RowKit

theorem Or_c (w : World) (g : Nat) (v : Int) (h0 : w.cell? ⟨g, 0, none⟩ = some (.int .i64 v)) (h1 : w.cell? ⟨g, 1, none⟩ = some (.int .i64 1)) :
    Calls Tryd.prog 44 #[.slice (some ⟨g, 0, none⟩) 2 2] w (RSame w (.int .i64 (if v = 0 then 1 else v))) := by
  obtain ⟨r, hr⟩ : ∃ r, r = (if v = 0 then 1 else v) := ⟨_, rfl⟩
  rw [← hr]
  have Hr := hid hr
  clear hr
  go_enter Tryd.func44, Tryd.ntmps44
  go_wp2_with fail
  go_loop [8] (fun i => ∃ k : Nat, i = .int .i64 k ∧ k ≤ 1 ∧ (k = 1 → v = 0)) (fun i => 2 - (intOf i).toNat)
  case atStart => exact ⟨0, rfl, by omega, by omega⟩
  case round =>
    obtain ⟨k, rfl, hk, hv⟩ := hrel
    rcases Nat.eq_zero_or_pos k with hk0 | hk0
    · subst hk0
      by_cases hv0 : v = 0
      · subst hv0
        go_wp2_with fail
        case roundEnd => exact ⟨⟨1, rfl, by omega, fun _ => trivial⟩, by simp [intOf]⟩
      · have hb : (v == 0) = false := by simpa using hv0
        go_wp2_with fail
        exact bodyPost_ret (v := .int .i64 v) (by simp [results, Tryd.results44, go_sem]) rfl ⟨by rw [Hr.out, if_neg hv0], rfl⟩
    · obtain rfl : k = 1 := by omega
      have hv0 := hv rfl
      subst hv0
      go_wp2_with fail
      exact bodyPost_ret (v := .int .i64 1) (by simp [results, Tryd.results44, go_sem]) rfl ⟨by rw [Hr.out]; simp, rfl⟩
end Go.Proofs.YtpflfagjkmeeiaaDoor
