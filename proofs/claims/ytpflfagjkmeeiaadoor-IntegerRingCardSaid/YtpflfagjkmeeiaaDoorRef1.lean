/-
  The reference package: made, size, Same, Of, Made. Every slice of words of at most 2^40 words.
-/
import Derived.Test.YtpflfagjkmeeiaaDoorRgs
import Derived.Test.YtpflfagjkmeeiaaDoorRTrim
import Derived.Deep.AppendSrc
namespace Go.Proofs.YtpflfagjkmeeiaaDoor
open Go Go.RowKit

set_option maxHeartbeats 400000 in
theorem rmade_c (w : World) (s : Bool) (ao : Option Addr) (n cap : Nat) (xs : List Nat) (z : Int) (h : Wd w ao n cap xs) (hz : z = if s then -(natVal xs : Int) else natVal xs) :
    Calls Tryd.prog 35 #[.bool s, .slice ao n cap] w (RInt w n z) := by
  have h1 := hid (rtrim_wd _ ao n cap xs (h.ext ((Ext.refl w).alloc (.cells #[.bool false, .slice none 0 0] 27))))
  have Hz := hid hz
  have Hh := hid h
  clear hz h
  go_enter Tryd.func35, Tryd.ntmps35
  go_wp2_with fail
  refine (h1.out).mono ?_
  rintro e w' ⟨n', rfl, rfl, hn⟩
  clear h1
  have hle := hn.le
  have hn := hn.back Hh.out ((Ext.refl w).alloc _) hle
  by_cases h0 : n' = 0
  · have hm := (hn.zero).2 h0
    have hz0 : z = 0 := by rw [Hz.out, hm]; cases s <;> rfl
    subst h0
    go_wp2_with fail
    refine bodyPost_ret (v := .agg #[.bool false, .slice none 0 0]) (by simp [results, Tryd.results35, go_sem]) rfl ?_
    rw [hz0]
    exact ⟨_, _, _, _, rfl, (Ext.refl w).alloc _, IntAt.zero.mono (by omega)⟩
  · have h0' : ((n' : Int) == 0) = false := by rw [beq_eq_false_iff_ne]; omega
    have h00 := hid h0
    clear h0
    go_wp2_with fail
    refine bodyPost_ret (v := .agg #[.bool s, .slice ao n' cap]) (by simp [results, Tryd.results35, go_sem]) rfl ?_
    refine ⟨_, _, _, _, rfl, (Ext.refl w).alloc _, ?_⟩
    rw [Hz.out]
    exact IntAt.mk (hn.ext ((Ext.refl w).alloc _)) s h00.out

set_option maxRecDepth 100000 in
set_option maxHeartbeats 1000000 in
theorem rsize_same (w : World) (a1 a2 : Option Addr) (n c1 c2 : Nat) (A B : List Nat) (h1 : Wd w a1 n c1 A) (h2 : Wd w a2 n c2 B) (s1 : n ≤ 1073741824) :
    Calls Tryd.prog 42 #[.slice a1 n c1, .slice a2 n c2] w (RVal w (.int .i64 (cmpI (natVal A) (natVal B)))) := by
  have HA := hid h1.lt
  have HB := hid h2.lt
  have HlA := hid h1.len
  have HlB := hid h2.len
  have HW1 := hid h1
  have HW2 := hid h2
  have sh1 := h1.shape
  have sh2 := h2.shape
  clear h1 h2
  rcases sh1 with sh1 | ⟨b1, off1, rfl, hb1⟩ <;> rcases sh2 with sh2 | ⟨b2, off2, rfl, hb2⟩
  all_goals
    go_enter Tryd.func42, Tryd.ntmps42
    go_wp2_with fail
    go_loopw [5] (fun i wr => ∃ z : Int, -1 ≤ z ∧ z < n ∧ i = .int .i64 z ∧ Hid (SameFrom A B (z + 1).toNat) ∧ Ext w wr) (fun i _ => (intOf i + 1).toNat)
    case atStart => exact ⟨(n : Int) - 1, by omega, by omega, rfl, fun i hi => by rw [getD_big _ _ (by rw [HlA.out]; omega), getD_big _ _ (by rw [HlB.out]; omega)], Ext.refl _⟩
    case round =>
      obtain ⟨z, hz1, hz2, rfl, hsame, hext⟩ := hrel
      by_cases hz0 : 0 ≤ z
      · obtain ⟨j, rfl⟩ := Int.eq_ofNat_of_zero_le hz0
        first
          | (exfalso; omega)
          | (have c1 := (HW1.out.ext hext).cell j (by omega)
             have c2 := (HW2.out.ext hext).cell j (by omega)
             have hsame' : SameFrom A B (j + 1) := hsame.out
             have HC : ∀ x y : Nat, A.getD j 0 = x → B.getD j 0 = y → (x < y → natVal A < natVal B) ∧ (y < x → natVal B < natVal A) ∧ (x = y → SameFrom A B j) := fun x y hx hy =>
               ⟨fun h => hsame'.lt HA.out (by omega) HlA.out HlB.out (by rw [hx, hy]; exact h), fun h => hsame'.symm.lt HB.out (by omega) HlB.out HlA.out (by rw [hx, hy]; exact h), fun h => hsame'.step (by rw [hx, hy]; exact h)⟩
             have HC := hid (HC _ _ rfl rfl)
             clear hsame hsame'
             generalize A.getD j 0 = x at c1 HC
             generalize B.getD j 0 = y at c2 HC
             go_wp2_with fail
             rcases Nat.lt_trichotomy x y with h | h | h
             · have hv : decide (x < y) = true := by simpa using h
               have hg := hid (HC.out.1 h)
               clear HC
               go_quiet (fail)
               go_wp2_with fail
               go_ret
               exact ⟨ret_int (by rw [cmpI_lt (by exact_mod_cast hg.out)]), hext.drewN _⟩
             · have hv : decide (x < y) = false := by simp; omega
               have hv2 : decide (y < x) = false := by simp; omega
               have hg := hid (HC.out.2.2 h)
               clear HC h
               go_quiet (fail)
               go_wp2_with fail
               go_quiet (fail)
               go_wp2_with fail
               go_roundw
               case rel => exact ⟨(j : Int) - 1, by omega, by omega, rfl, by rw [show ((j : Int) - 1 + 1).toNat = j from by omega]; exact hg, hext.drewN _⟩
               case measure => simp [intOf]
             · have hv : decide (x < y) = false := by simp; omega
               have hv2 : decide (y < x) = true := by simpa using h
               have hg := hid (HC.out.2.1 h)
               clear HC
               go_quiet (fail)
               go_wp2_with fail
               go_quiet (fail)
               go_wp2_with fail
               go_ret
               exact ⟨ret_int (by rw [cmpI_gt (by exact_mod_cast hg.out)]), (hext.drewN _).drewN _⟩)
      · obtain rfl : z = -1 := by omega
        have hv : SameFrom A B 0 := hsame.out
        have hg := hid (hv.eq HlA.out HlB.out)
        clear hv hsame
        go_wp2_with fail
        go_ret
        exact ⟨ret_int (cmpI_eq (congrArg (fun n : Nat => (n : Int)) hg.out)).symm, hext⟩

theorem rsize_c (w : World) (a1 a2 : Option Addr) (n1 n2 c1 c2 k1 k2 x y : Nat) (h1 : NatAt w k1 a1 n1 c1 x) (h2 : NatAt w k2 a2 n2 c2 y) (s1 : k1 ≤ 1073741824) :
    Calls Tryd.prog 42 #[.slice a1 n1 c1, .slice a2 n2 c2] w (RVal w (.int .i64 (cmpI x y))) := by
  obtain ⟨xs, h1, l1, z1, rfl⟩ := h1
  obtain ⟨ys, h2, l2, z2, rfl⟩ := h2
  have e1 := h1.len
  have e2 := h2.len
  have b1 : n1 ≤ 9223372036854775807 := Nat.le_trans h1.capo h1.big
  have b2 : n2 ≤ 9223372036854775807 := Nat.le_trans h2.capo h2.big
  rcases Nat.lt_trichotomy n1 n2 with h | h | h
  · have hv : natVal xs < natVal ys := by
      have a := natVal_lt xs h1.lt
      have b := natVal_ge ys (by omega) (by rw [e2]; exact z2 (by omega))
      have c : 4294967296 ^ xs.length ≤ 4294967296 ^ (ys.length - 1) := Nat.pow_le_pow_right (by omega) (by omega)
      omega
    rw [cmpI_lt (by exact_mod_cast hv)]
    have hc : (n1 == n2) = false := by rw [beq_eq_false_iff_ne]; omega
    have hc2 : decide (n1 < n2) = true := by simpa using h
    clear hv h1 h2 e1 e2 z1 z2
    go_enter Tryd.func42, Tryd.ntmps42
    go_wp2_with fail
    go_ret
    exact ⟨rfl, Ext.refl _⟩
  · subst h
    exact rsize_same w a1 a2 n1 c1 c2 xs ys h1 h2 (by omega)
  · have hv : natVal ys < natVal xs := by
      have a := natVal_lt ys h2.lt
      have b := natVal_ge xs (by omega) (by rw [e1]; exact z1 (by omega))
      have c : 4294967296 ^ ys.length ≤ 4294967296 ^ (xs.length - 1) := Nat.pow_le_pow_right (by omega) (by omega)
      omega
    rw [cmpI_gt (by exact_mod_cast hv)]
    have hc : (n1 == n2) = false := by rw [beq_eq_false_iff_ne]; omega
    have hc2 : decide (n1 < n2) = false := by simp; omega
    clear hv h1 h2 e1 e2 z1 z2
    go_enter Tryd.func42, Tryd.ntmps42
    go_wp2_with fail
    go_ret
    exact ⟨rfl, Ext.refl _⟩
end Go.Proofs.YtpflfagjkmeeiaaDoor
