/-
  trim of the reference package: zeros at the end are taken away. Every slice of words.
-/
import Derived.Test.YtpflfagjkmeeiaaDoorProg
import Derived.Test.YtpflfagjkmeeiaaDoorTrim
import Derived.WalkLawsBesides
import Derived.WalkSpells
namespace Go.Proofs.YtpflfagjkmeeiaaDoor
open Go Go.RowKit

set_option maxHeartbeats 400000 in
theorem rtrim_wd (w : World) (ao : Option Addr) (n cap : Nat) (xs : List Nat) (h : Wd w ao n cap xs) :
    Calls Tryd.prog 54 #[.slice ao n cap] w fun e w' => ∃ n', e = .returned (.slice ao n' cap) ∧ w = w' ∧ NatAt w n ao n' cap (natVal xs) := by
  have hl := h.len
  have hcapo := h.capo
  have hbig := h.big
  have hfull : natVal (xs.take n) = natVal xs := by rw [List.take_of_length_le (by omega)]
  have fin : ∀ k, k ≤ n → natVal (xs.take k) = natVal (xs.take n) → (0 < k → xs.getD (k - 1) 0 ≠ 0) → NatAt w n ao k cap (natVal xs) := fun k hk he hz =>
    ⟨xs.take k, h.take k hk, hk, fun h0 => by rw [getD_take _ _ _ (by omega)]; exact hz h0, by rw [he, hfull]⟩
  have step : ∀ k, 0 < k → xs.getD (k - 1) 0 = 0 → natVal (xs.take (k - 1)) = natVal (xs.take k) := fun k h0 hz => by
    have := natVal_take_zero xs (k - 1) hz
    rw [show k - 1 + 1 = k from by omega] at this
    exact this.symm
  have Hfin := hid fin
  have Hstep := hid step
  have Hfull := hid hfull
  clear fin step hfull
  rcases h.at_ with rfl | ⟨b, off, rfl, hb, hc⟩
  · clear h
    go_enter Tryd.func54, Tryd.ntmps54
    go_wp2
    refine wp_loop_rounds 1 ?_
    rw [rounds_succ]
    go_wp2
    go_ret
    exact ⟨0, rfl, rfl, Hfin.out 0 (by omega) rfl (by omega)⟩
  · clear h
    have HC := hid hc
    clear hc
    go_enter Tryd.func54, Tryd.ntmps54
    go_wp2
    go_loop [0] (fun v => ∃ k : Nat, k ≤ n ∧ v = .slice (some ⟨b, off, none⟩) k cap ∧ Hid (natVal (xs.take k) = natVal (xs.take n))) (fun v => match v with | .slice _ k _ => k | _ => 0)
    case atStart => exact ⟨n, by omega, rfl, rfl⟩
    case round =>
      obtain ⟨k, hk, rfl, hkeep⟩ := hrel
      by_cases h0 : 0 < k
      · have hcell := HC.out (k - 1) (by omega)
        by_cases hz : xs.getD (k - 1) 0 = 0
        · have hz2 : ((xs.getD (k - 1) 0 : Nat) : Int) = 0 := by omega
          rw [hz2] at hcell
          have Hz := hid hz
          clear hz hz2
          go_wp2
          go_round
          case rel => exact ⟨k - 1, by omega, rfl, (Hstep.out k h0 Hz.out).trans hkeep⟩
          case measure => simp; omega
        · obtain ⟨x, hx⟩ : ∃ x, x = xs.getD (k - 1) 0 := ⟨_, rfl⟩
          rw [← hx] at hcell
          have hz2 : ((x : Int) == 0) = false := by simpa [hx] using hz
          have Hz := hid hz
          clear hz hx
          go_wp2
          go_ret
          exact ⟨k, rfl, rfl, Hfin.out k hk hkeep (fun _ => Hz.out)⟩
      · go_wp2
        go_ret
        exact ⟨k, rfl, rfl, Hfin.out k hk hkeep (fun h => absurd h h0)⟩

theorem rtrim_c (w : World) (ao : Option Addr) (n cap : Nat) (xs : List Nat) (h : Wd w ao n cap xs) :
    Calls Tryd.prog 54 #[.slice ao n cap] w (RNat w n (natVal xs)) :=
  (rtrim_wd w ao n cap xs h).mono fun _ _ ⟨n', h1, h2, h3⟩ => ⟨ao, n', cap, h1, h2 ▸ Ext.refl _, h2 ▸ h3⟩
end Go.Proofs.YtpflfagjkmeeiaaDoor
