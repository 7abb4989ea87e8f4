/-
  Integers of package integer: power. Every integer and every exponent whose power has at most 2^27 words.
-/
import Derived.Test.YtpflfagjkmeeiaaDoorBezout
namespace Go.Proofs.YtpflfagjkmeeiaaDoor
open Go Go.RowKit

/-- What the loop of power keeps: m and p are how often z is a factor of the two boxes' integers. -/
def PwI (w : World) (k n : Nat) (z : Int) (g5 r : Nat) (W : World) : Prop :=
  ∃ m p sb sa ab aa nb na cb ca, m + p * r = n ∧ (1 ≤ r → p ≤ n) ∧ Bx W w.heap.size sb ab nb cb ∧ Bx W (w.heap.size + 1) false none 0 0 ∧ Bx W g5 sa aa na ca ∧ IntAt W (k * p) sb ab nb cb (z ^ p) ∧ IntAt W (k * m + 1) sa aa na ca (z ^ m) ∧ Ext w W

theorem pw_even {m p j n : Nat} (h : m + p * (2 * j) = n) : m + (p + p) * j = n ∧ (1 ≤ j → p + p ≤ n) := by
  have h1 : p * (2 * j) = (p + p) * j := by grind
  rw [h1] at h
  exact ⟨h, fun hj => by have := Nat.le_mul_of_pos_right (p + p) hj; omega⟩
theorem pw_odd {m p j n : Nat} (h : m + p * (2 * j + 1) = n) : (m + p) + (p + p) * j = n ∧ (1 ≤ j → p + p ≤ n) := by
  have h1 : p * (2 * j + 1) = p + (p + p) * j := by grind
  rw [h1] at h
  exact ⟨by omega, fun hj => by have := Nat.le_mul_of_pos_right (p + p) hj; omega⟩
theorem ipow_one (z : Int) : z ^ 1 = z := by rw [show (1 : Nat) = 0 + 1 from rfl, Int.pow_succ, Int.pow_zero, Int.one_mul]

set_option maxRecDepth 100000 in
theorem power_c (w : World) (s1 : Bool) (a1 : Option Addr) (n1 c1 k1 : Nat) (z1 : Int) (h1 : IntAt w k1 s1 a1 n1 c1 z1) (n : Nat) (hn : k1 * n ≤ 134217728) (hn2 : n < 9223372036854775808) :
    Calls Tryd.prog 47 #[.agg #[.bool s1, .slice a1 n1 c1], .int .i64 n] w (RInt w (k1 * n + 1) (z1 ^ n)) := by
  obtain ⟨W, hW, K0⟩ := kq11 w s1 a1 n1 c1
  have b2 := hid (K0.bx w.heap.size s1 a1 n1 c1 (by simp))
  have b4 := hid (K0.bx (w.heap.size + 1) false none 0 0 (by simp))
  have E := hid K0.ext
  have hz := hid (h1.ext K0.ext)
  clear K0 h1
  go_enter Tryd.func47, Tryd.ntmps47
  go_wp2_with fail
  rw [← hW]
  clear hW
  refine Calls.mono (Of_c W 1 (by decide) (by decide)) ?_
  rintro e w1 ⟨sa, aa, na, ca, rfl, e1, ha⟩
  go_wp2_with fail
  obtain ⟨w2, hW, b5, e2⟩ := bx1 w1 sa aa na ca
  rw [← hW]; clear hW
  have l5 := (b4.out.ext e1).lt
  obtain ⟨g5, hg5⟩ : ∃ g5, g5 = w1.heap.size := ⟨_, rfl⟩
  rw [← hg5] at b5 l5
  rw [← hg5]
  clear hg5
  have e12 := e1.trans e2
  have I0 := hid (show PwI w k1 n z1 g5 n w2 from ⟨0, 1, _, _, _, _, _, _, _, _, by omega, by omega, b2.out.ext e12, b4.out.ext e12, b5, by rw [ipow_one, Nat.mul_one]; exact hz.out.ext e12, by simpa using (ha.tight (k' := 1) (by decide)).ext e2, E.out.trans e12⟩)
  clear b2 b4 E hz ha e1 e2 e12 b5
  go_loopg [1] n (fun r x wr => x = .int .i64 r ∧ r ≤ n ∧ Hid (PwI w k1 n z1 g5 r wr))
  case atStart => exact ⟨rfl, by omega, I0⟩
  case round =>
    clear I0
    obtain ⟨rfl, hrn, I⟩ := hrel
    obtain ⟨m, p, sb, sa, ab, aa, nb, na, cb, ca, hmp, hpn, H'⟩ := I.out
    clear I
    have H := hid H'
    clear H'
    rcases Nat.eq_zero_or_pos gk with h0 | h0
    · subst h0
      obtain rfl : m = n := by omega
      have F1 := H.out.2.2.1.c0; have F2 := H.out.2.2.1.c1; have F3 := H.out.2.2.1.f0; have F4 := H.out.2.2.1.f1
      have G1 := H.out.2.1.c0; have G2 := H.out.2.1.c1; have G3 := H.out.2.1.f0; have G4 := H.out.2.1.f1
      go_wp2_with fail
      obtain ⟨X1, hW, b4, p'⟩ := H.out.2.1.put' sa aa na ca
      rw [← hW]; clear hW
      have T0 := b4.c0; have T1 := b4.c1
      exact bodyPost_ret (v := .agg #[.bool sa, .slice aa na ca]) (by simp [results, Tryd.results47, go_sem, T0, T1]) rfl ⟨_, _, _, _, rfl, H.out.2.2.2.2.2.pt p' (by omega), H.out.2.2.2.2.1.pt p'⟩
    · have hpn := hpn h0
      have hkp : k1 * p ≤ k1 * n := Nat.mul_le_mul_left _ hpn
      have hkm : k1 * m ≤ k1 * n := Nat.mul_le_mul_left _ (by omega)
      have hgi : decide ((0 : Int) < (gk : Int)) = true := by simp; omega
      have hm2 : ((gk : Int).tmod 2) = ((gk % 2 : Nat) : Int) := by rw [Int.tmod_eq_emod_of_nonneg (by omega)]; omega
      have hd2 : ((gk : Int).tdiv 2) = ((gk / 2 : Nat) : Int) := by rw [Int.tdiv_eq_ediv_of_nonneg (by omega)]; omega
      rcases Nat.mod_two_eq_zero_or_one gk with ho | ho
      · rw [ho] at hm2
        obtain ⟨j, rfl⟩ : ∃ j, gk = 2 * j := ⟨gk / 2, by omega⟩
        rw [show 2 * j / 2 = j by omega] at hd2
        have hone : decide ((1 : Int) < ((2 * j : Nat) : Int)) = true := by simp; omega
        have F1 := H.out.1.c0; have F2 := H.out.1.c1; have F3 := H.out.1.f0; have F4 := H.out.1.f1
        go_wp2_with fail
        refine Calls.mono (Mul_c wr sb sb ab ab nb nb cb cb (k1 * p) (k1 * p) (z1 ^ p) (z1 ^ p) H.out.2.2.2.1 H.out.2.2.2.1 (by omega) (by omega)) ?_
        rintro e w1 ⟨s3, a3, n3, c3, rfl, e1, h3⟩
        clear F1 F2 F3 F4
        have b2 := H.out.1.ext e1
        have b4 := H.out.2.1.ext e1
        have b5 := H.out.2.2.1.ext e1
        have ha := H.out.2.2.2.2.1.ext e1
        have E := H.out.2.2.2.2.2.trans e1
        clear H e1
        have F1 := b2.c0; have F2 := b2.c1; have F3 := b2.f0; have F4 := b2.f1
        go_upto_region 3 with (fail)
        clear F1 F2 F3 F4
        obtain ⟨w2, hW, b2, p'⟩ := b2.put' s3 a3 n3 c3
        rw [← hW]; clear hW
        have I' := hid (show PwI w k1 n z1 g5 j w2 from ⟨m, p + p, _, _, _, _, _, _, _, _, (pw_even hmp).1, (pw_even hmp).2, b2, b4.pt p' (by omega), b5.pt p' (by omega), by rw [Nat.mul_add, Int.pow_add]; exact h3.pt p', ha.pt p', E.pt p' (by omega)⟩)
        clear b2 b4 b5 ha E h3 p'
        go_wp2_with fail
        go_roundg j
        case measure => omega
        case rel => exact ⟨rfl, by omega, I'⟩
      · rw [ho] at hm2
        have F1 := H.out.2.2.1.c0; have F2 := H.out.2.2.1.c1; have F3 := H.out.2.2.1.f0; have F4 := H.out.2.2.1.f1
        have G1 := H.out.1.c0; have G2 := H.out.1.c1; have G3 := H.out.1.f0; have G4 := H.out.1.f1
        go_wp2_with fail
        refine Calls.mono (Mul_c wr sa sb aa ab na nb ca cb (k1 * m + 1) (k1 * p) (z1 ^ m) (z1 ^ p) H.out.2.2.2.2.1 H.out.2.2.2.1 (by omega) (by omega)) ?_
        rintro e w1 ⟨s3, a3, n3, c3, rfl, e1, h3⟩
        clear F1 F2 F3 F4 G1 G2 G3 G4
        have b2 := H.out.1.ext e1
        have b4 := H.out.2.1.ext e1
        have b5 := H.out.2.2.1.ext e1
        have hb := H.out.2.2.2.1.ext e1
        have E := H.out.2.2.2.2.2.trans e1
        clear H e1
        have F1 := b5.c0; have F2 := b5.c1; have F3 := b5.f0; have F4 := b5.f1
        go_upto_region 6 with (fail)
        clear F1 F2 F3 F4
        obtain ⟨w2, hW, b5, p'⟩ := b5.put' s3 a3 n3 c3
        rw [← hW]; clear hW
        have b2 := b2.pt p' (by omega)
        have b4 := b4.pt p' (by omega)
        have hb := hb.pt p'
        have E := E.pt p' (by omega)
        have h3 := h3.pt p'
        clear p'
        have h3 : IntAt w2 (k1 * (m + p) + 1) s3 a3 n3 c3 (z1 ^ (m + p)) := by rw [Nat.mul_add, Int.pow_add, show k1 * m + k1 * p + 1 = k1 * m + 1 + k1 * p by omega]; exact h3
        obtain ⟨j, rfl⟩ : ∃ j, gk = 2 * j + 1 := ⟨gk / 2, by omega⟩
        rw [show (2 * j + 1) / 2 = j by omega] at hd2
        rcases Nat.eq_zero_or_pos j with hj | hj
        · subst hj
          have I' := hid (show PwI w k1 n z1 g5 0 w2 from ⟨m + p, p, _, _, _, _, _, _, _, _, by omega, fun h => by omega, b2, b4, b5, hb, h3, E⟩)
          clear b2 b4 b5 hb E h3
          go_wp2_with fail
          go_roundg 0
          case measure => omega
          case rel => exact ⟨rfl, by omega, I'⟩
        · have hone : decide ((1 : Int) < ((2 * j + 1 : Nat) : Int)) = true := by simp; omega
          have F1 := b2.c0; have F2 := b2.c1; have F3 := b2.f0; have F4 := b2.f1
          go_wp2_with fail
          refine Calls.mono (Mul_c w2 sb sb ab ab nb nb cb cb (k1 * p) (k1 * p) (z1 ^ p) (z1 ^ p) hb hb (by omega) (by omega)) ?_
          rintro e w3 ⟨s4, a4, n4, c4, rfl, e3, h4⟩
          clear F1 F2 F3 F4
          have b2 := b2.ext e3
          have b4 := b4.ext e3
          have b5 := b5.ext e3
          have h3 := h3.ext e3
          have E := E.trans e3
          clear hb e3
          have F1 := b2.c0; have F2 := b2.c1; have F3 := b2.f0; have F4 := b2.f1
          go_upto_region 3 with (fail)
          clear F1 F2 F3 F4
          obtain ⟨w4, hW, b2, p'⟩ := b2.put' s4 a4 n4 c4
          rw [← hW]; clear hW
          have I' := hid (show PwI w k1 n z1 g5 j w4 from ⟨m + p, p + p, _, _, _, _, _, _, _, _, (pw_odd hmp).1, (pw_odd hmp).2, b2, b4.pt p' (by omega), b5.pt p' (by omega), by rw [Nat.mul_add, Int.pow_add]; exact h4.pt p', h3.pt p', E.pt p' (by omega)⟩)
          clear b2 b4 b5 E h3 h4 p'
          go_wp2_with fail
          go_roundg j
          case measure => omega
          case rel => exact ⟨by rw [show ((2 * (j : Int) + 1) / 2) = (j : Int) by omega], by omega, I'⟩
end Go.Proofs.YtpflfagjkmeeiaaDoor
