/-
  The reference package: word, size in order (reaches). Every slice of words.
-/
import Derived.Test.YtcgdkfadcglekaaGreatDoorRMath
namespace Go.Proofs.YtcgdkfadcglekaaGreatDoor
open Go Go.RowKit

theorem word_c (w : World) (ao : Option Addr) (n cap : Nat) (xs : List Nat) (h : Wd w ao n cap xs) (i : Nat) (hi : i < 9223372036854775807) :
    Calls Tryz.prog 119 #[.slice ao n cap, .int .i64 (i : Int)] w (RSame w (.int .u64 ((xs.getD i 0 : Nat) : Int))) := by
  by_cases hl : i < n
  · rcases h.shape with h0 | ⟨b, off, rfl, hb⟩
    · omega
    · have hc := h.cell i hl
      have hx := h.lt i
      generalize xs.getD i 0 = x at *
      clear h
      go_enter Tryz.func119, Tryz.ntmps119
      go_wp2_with fail
      go_ret
      exact ⟨rfl, rfl⟩
  · have hx : xs.getD i 0 = 0 := getD_big _ _ (by rw [h.len]; omega)
    rw [hx]
    clear hx h
    go_enter Tryz.func119, Tryz.ntmps119
    go_wp2_with fail
    go_ret
    exact ⟨rfl, rfl⟩
theorem word_neg (w : World) (ao : Option Addr) (n cap : Nat) :
    Calls Tryz.prog 119 #[.slice ao n cap, .int .i64 (-1)] w (RSame w (.int .u64 0)) := by
  go_enter Tryz.func119, Tryz.ntmps119
  go_wp2_with fail
  go_ret
  exact ⟨rfl, rfl⟩

set_option maxRecDepth 100000 in
set_option maxHeartbeats 1000000 in
theorem reaches_c (w : World) (a1 a2 : Option Addr) (n1 n2 c1 c2 : Nat) (A B : List Nat) (h1 : Wd w a1 n1 c1 A) (h2 : Wd w a2 n2 c2 B) (s1 : n1 ≤ 1073741824) (s2 : n2 ≤ 1073741824) :
    Calls Tryz.prog 150 #[.slice a1 n1 c1, .slice a2 n2 c2] w (RVal w (.bool (decide (natVal B ≤ natVal A)))) := by
  have HA := hid h1.lt
  have HB := hid h2.lt
  have HW1 := hid h1
  have HW2 := hid h2
  obtain ⟨N, hN⟩ : ∃ N, N = max n1 n2 := ⟨_, rfl⟩
  have hN1 : max (n1 : Int) (n2 : Int) = (N : Int) := by omega
  have hNs : N ≤ 1073741824 := by omega
  have I0 : Hid (SameUp A B N) := fun i hi => by rw [getD_big A i (by rw [h1.len]; omega), getD_big B i (by rw [h2.len]; omega)]
  obtain ⟨r, hr⟩ : ∃ r, r = decide (natVal B ≤ natVal A) := ⟨_, rfl⟩
  rw [← hr]
  have Hr := hid hr
  clear h1 h2 hN hr
  go_enter Tryz.func150, Tryz.ntmps150
  go_wp2_with fail
  all_goals
    go_loopw [5] (fun i wr => ∃ z : Int, -1 ≤ z ∧ z < N ∧ i = .int .i64 z ∧ Hid (SameUp A B (z + 1).toNat) ∧ Ext w wr) (fun i _ => (intOf i + 1).toNat)
    case atStart => exact ⟨(N : Int) - 1, by omega, by omega, by go_must (rw [show (N : Int) = _ from hN1.symm]; try simp; try omega), by rw [show ((N : Int) - 1 + 1).toNat = N from by omega]; exact I0, Ext.refl _⟩
    case round =>
      clear I0
      obtain ⟨z, hz1, hz2, rfl, hsame, hext⟩ := hrel
      by_cases hz0 : 0 ≤ z
      · obtain ⟨j, rfl⟩ := Int.eq_ofNat_of_zero_le hz0
        have hsame' : SameUp A B (j + 1) := hsame.out
        have HC : ∀ x y : Nat, A.getD j 0 = x → B.getD j 0 = y → (x < y → r = false) ∧ (y < x → r = true) ∧ (x = y → SameUp A B j) := fun x y hx hy =>
          ⟨fun h => by rw [Hr.out]; have := hsame'.lt HA.out (by rw [hx, hy]; exact h); simp; omega, fun h => by rw [Hr.out]; have := hsame'.symm.lt HB.out (by rw [hx, hy]; exact h); simp; omega, fun h => hsame'.step (by rw [hx, hy]; exact h)⟩
        have HC := hid (HC _ _ rfl rfl)
        have W1 := hid (HW1.out.ext hext)
        have W2 := hid (HW2.out.ext hext)
        clear hsame hsame'
        have HA' := hid (word_c wr a1 n1 c1 A W1.out j (by omega))
        have HB' := hid (word_c wr a2 n2 c2 B W2.out j (by omega))
        generalize A.getD j 0 = x at HA' HC
        generalize B.getD j 0 = y at HB' HC
        have key : (x = y ∧ SameUp A B j) ∨ (¬ x = y ∧ decide (y < x) = r) := by
          rcases Nat.lt_trichotomy x y with h | h | h
          · right; refine ⟨by omega, ?_⟩; rw [HC.out.1 h]; simp; omega
          · left; exact ⟨h, HC.out.2.2 h⟩
          · right; refine ⟨by omega, ?_⟩; rw [HC.out.2.1 h]; simp; omega
        clear HC W1 W2
        rcases key with ⟨rfl, hg⟩ | ⟨hne, hg⟩
        · have hg := hid hg
          have hv : ((x : Int) != (x : Int)) = false := by simp
          go_wp2_with fail
          refine Calls.mono HA'.out ?_
          rintro e w9 ⟨rfl, rfl⟩
          go_wp2_with fail
          refine Calls.mono HB'.out ?_
          rintro e w9 ⟨rfl, rfl⟩
          go_wp2_with fail
          go_roundw
          case rel => exact ⟨(j : Int) - 1, by omega, by omega, rfl, by rw [show ((j : Int) - 1 + 1).toNat = j from by omega]; exact hg, hext⟩
          case measure => simp [intOf]
        · have hv : ((x : Int) != (y : Int)) = true := by rw [bne_iff_ne]; omega
          have Hg := hid hg
          clear hg
          go_wp2_with fail
          refine Calls.mono HA'.out ?_
          rintro e w9 ⟨rfl, rfl⟩
          go_wp2_with fail
          refine Calls.mono HB'.out ?_
          rintro e w9 ⟨rfl, rfl⟩
          go_wp2_with fail
          refine Calls.mono HA'.out ?_
          rintro e w9 ⟨rfl, rfl⟩
          go_wp2_with fail
          refine Calls.mono HB'.out ?_
          rintro e w9 ⟨rfl, rfl⟩
          go_wp2_with fail
          go_ret
          exact ⟨by rw [← Hg.out]; rfl, hext⟩
      · obtain rfl : z = -1 := by omega
        have hv : SameUp A B 0 := hsame.out
        have hg := hid (show r = true by rw [Hr.out, hv.eq]; simp)
        clear hv hsame
        go_wp2_with fail
        go_ret
        exact ⟨by rw [hg.out]; rfl, hext⟩
end Go.Proofs.YtcgdkfadcglekaaGreatDoor
