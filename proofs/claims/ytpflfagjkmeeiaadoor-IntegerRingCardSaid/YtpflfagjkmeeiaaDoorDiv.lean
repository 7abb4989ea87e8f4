/-
  Long division of naturals in package integer. At most 2^28 words each, the divisor not 0.
-/
import Derived.Test.YtpflfagjkmeeiaaDoorDivMath
import Derived.Test.YtpflfagjkmeeiaaDoorDivW
import Derived.Test.YtpflfagjkmeeiaaDoorCmp
import Derived.Test.YtpflfagjkmeeiaaDoorShl
import Derived.Test.YtpflfagjkmeeiaaDoorShr
namespace Go.Proofs.YtpflfagjkmeeiaaDoor
open Go Go.RowKit

/-- Hands back two naturals. -/
def RDiv (w0 : World) (k1 k2 q r : Nat) (e : Ending) (w' : World) : Prop :=
  ∃ ao n cap ao' n' cap', e = .returned (.tuple #[.slice ao n cap, .slice ao' n' cap']) ∧ Ext w0 w' ∧ NatAt w' k1 ao n cap q ∧ NatAt w' k2 ao' n' cap' r

theorem NatAt.lt {w : World} {k n cap m : Nat} {ao : Option Addr} (h : NatAt w k ao n cap m) : m < 4294967296 ^ n := by
  obtain ⟨xs, h1, h2, h3, h4⟩ := h
  have := natVal_lt xs h1.lt
  rw [h1.len, h4] at this; exact this
theorem NatAt.ge {w : World} {k n cap m : Nat} {ao : Option Addr} (h : NatAt w k ao n cap m) (hn : 0 < n) : 4294967296 ^ (n - 1) ≤ m := by
  obtain ⟨xs, h1, h2, h3, h4⟩ := h
  have := natVal_ge xs (by rw [h1.len]; exact hn) (by rw [h1.len]; exact h3 hn)
  rw [h1.len, h4] at this; exact this
/-- As many words as the value wants. -/
theorem NatAt.tight {w : World} {k k' n cap m : Nat} {ao : Option Addr} (h : NatAt w k ao n cap m) (hm : m < 4294967296 ^ k') : NatAt w k' ao n cap m := by
  have hn : n ≤ k' := by
    rcases Nat.eq_zero_or_pos n with h0 | h0
    · omega
    · have h1 := h.ge h0
      have := (Nat.pow_lt_pow_iff_right (a := 4294967296) (by omega)).1 (Nat.lt_of_le_of_lt h1 hm)
      omega
  obtain ⟨xs, h1, h2, h3⟩ := h
  exact ⟨xs, h1, hn, h3⟩
theorem NatAt.zero {w : World} {k n cap m : Nat} {ao : Option Addr} (h : NatAt w k ao n cap m) : m = 0 ↔ n = 0 := by
  constructor
  · intro hm
    rcases Nat.eq_zero_or_pos n with h0 | h0
    · exact h0
    · have := h.ge h0
      have : 0 < 4294967296 ^ (n - 1) := Nat.pos_of_ne_zero (by simp)
      omega
  · intro hn
    have := h.lt
    rw [hn] at this; simpa using this

/-- How many zero bits stand ahead in a word. -/
def lz (x : Nat) : Nat := 32 - bitLen x
theorem lz_bounds (x : Nat) (h0 : x ≠ 0) (h : x < 4294967296) : lz x < 32 ∧ 2147483648 ≤ x * 2 ^ lz x ∧ x * 2 ^ lz x < 4294967296 := by
  obtain ⟨k, h1, h2, h3⟩ := bitLen_bounds x h0
  have h4 := (lib_bitLen x h).2
  unfold lz
  have h5 : k ≤ 31 := by omega
  refine ⟨by omega, ?_, ?_⟩
  · have e : (2147483648 : Nat) = 2 ^ k * 2 ^ (32 - bitLen x) := by rw [← Nat.pow_add, show k + (32 - bitLen x) = 31 from by omega]
    rw [e]; exact Nat.mul_le_mul_right _ h2
  · have e : (4294967296 : Nat) = 2 ^ (k + 1) * 2 ^ (32 - bitLen x) := by rw [← Nat.pow_add, show k + 1 + (32 - bitLen x) = 32 from by omega]
    rw [e]; exact Nat.mul_lt_mul_of_pos_right h3 (Nat.pos_of_ne_zero (by simp))
theorem lz_c (x : Nat) (h : x < 4294967296) (w : World) : Calls Tryd.prog 58 #[.int .u32 x] w (RSame w (.int .i64 (lz x : Nat))) := by
  obtain ⟨h1, h2⟩ := lib_bitLen x h
  refine (Tryd.bits_LeadingZeros32 x w (by omega) (by omega)).mono ?_
  rintro e w' ⟨he, hw⟩
  exact ⟨by rw [he]; unfold lz; simp only [Int.toNat_natCast, h1]; congr 2; omega, hw.symm⟩

set_option maxRecDepth 100000 in
set_option maxHeartbeats 400000 in
theorem div_small (w : World) (a1 a2 : Option Addr) (n1 n2 c1 c2 k1 k2 x y : Nat) (h1 : NatAt w k1 a1 n1 c1 x) (h2 : NatAt w k2 a2 n2 c2 y) (s1 : k1 ≤ 268435456) (hlt : x < y) :
    Calls Tryd.prog 36 #[.slice a1 n1 c1, .slice a2 n2 c2] w (RDiv w k1 k2 (x / y) (x % y)) := by
  have hc := hid (cmp_c w a1 a2 n1 n2 c1 c2 k1 k2 x y h1 h2 (by omega))
  have hv : cmpI (x : Int) (y : Int) = -1 := cmpI_lt (by omega)
  have hy := h2.lt
  have hy' : y < 4294967296 ^ k2 := Nat.lt_of_lt_of_le hy (Nat.pow_le_pow_right (by omega) h2.le)
  have hr := hid (h1.tight (Nat.lt_trans hlt hy'))
  rw [Nat.div_eq_of_lt hlt, Nat.mod_eq_of_lt hlt]
  rw [hv] at hc
  clear h1 h2 hy hy' hv hlt
  go_enter Tryd.func36, Tryd.ntmps36
  go_wp2_with (go_at_call 39; refine (hc.out).mono ?_; rintro e w' ⟨rfl, he⟩)
  go_ret2
  exact ⟨_, _, _, _, _, _, rfl, he, ⟨[], wd_nil _ _ _ (by omega), by omega, by omega, rfl⟩, hr.out.ext he⟩

set_option maxRecDepth 100000 in
set_option maxHeartbeats 400000 in
theorem div_word (w : World) (a1 a2 : Option Addr) (n1 c1 c2 k1 k2 x y : Nat) (h1 : NatAt w k1 a1 n1 c1 x) (h2 : NatAt w k2 a2 1 c2 y) (s1 : k1 ≤ 268435456) (hge : y ≤ x) :
    Calls Tryd.prog 36 #[.slice a1 n1 c1, .slice a2 1 c2] w (RDiv w k1 k2 (x / y) (x % y)) := by
  have hc := hid (cmp_c w a1 a2 n1 1 c1 c2 k1 k2 x y h1 h2 (by omega))
  have hv : ∃ c : Int, cmpI (x : Int) (y : Int) = c ∧ 0 ≤ c := by
    rcases Nat.eq_or_lt_of_le hge with h | h
    · exact ⟨0, cmpI_eq (by omega), by omega⟩
    · exact ⟨1, cmpI_gt (by omega), by omega⟩
  obtain ⟨c, hv, hc0⟩ := hv
  rw [hv] at hc
  have hyl := h2.lt
  have hyp := h2.ge (by omega)
  have hk2 := h2.le
  simp only [Nat.pow_one, Nat.sub_self, Nat.pow_zero] at hyl hyp
  obtain ⟨ys, h2a, _, _, h2b⟩ := h2
  have hy0 : ys.getD 0 0 = y := by
    have := pv_all ys 1 (Nat.le_of_eq h2a.len)
    rw [h2b] at this
    simpa [pv] using this
  have hcell : ∃ b off, a2 = some ⟨b, off, none⟩ ∧ w.cell? ⟨b, off, none⟩ = some (.int .u32 (y : Nat)) := by
    rcases h2a.shape with h | ⟨b, off, rfl, hb⟩
    · omega
    · exact ⟨b, off, rfl, by have := h2a.cell 0 (by omega); rw [hy0] at this; exact this⟩
  obtain ⟨b, off, rfl, hcell⟩ := hcell
  have H1 := hid h1
  have hrl : x % y < 4294967296 := Nat.lt_trans (Nat.mod_lt _ hyp) hyl
  clear h1 h2a h2b hy0 hv hge
  go_enter Tryd.func36, Tryd.ntmps36
  go_wp2_with (first
    | (go_at_call 39; refine (hc.out).mono ?_; rintro e w' ⟨rfl, he⟩; have hcell := he.cell hcell)
    | (go_at_call 49; refine (divw_c _ _ _ _ _ _ _ (H1.out.ext he) (by omega) hyp hyl).mono ?_; rintro e w2 ⟨ao, n, cap, rfl, he2, hq⟩)
    | (go_at_call 56; refine (trim_c _ _ _ _ [x % y] (wd_new1 _ _ hrl)).mono ?_; rintro e w3 ⟨ao', n', cap', rfl, he3, hr⟩))
  go_ret2
  have he4 := (Ext.refl w2).alloc (.cells #[.int .u32 ((x % y : Nat) : Int)] 66)
  simp only [natVal, Nat.mul_zero, Nat.add_zero] at hr
  exact ⟨_, _, _, _, _, _, rfl, (he.trans he2).trans (he4.trans he3), hq.ext (he4.trans he3), hr.mono hk2⟩
end Go.Proofs.YtpflfagjkmeeiaaDoor
