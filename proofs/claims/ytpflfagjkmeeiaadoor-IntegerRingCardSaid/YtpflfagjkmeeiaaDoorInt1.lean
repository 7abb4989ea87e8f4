/-
  Integers of package integer: of, Neg, Abs, Sign, Bits. Every integer of at most 2^28 words.
-/
import Derived.Test.YtpflfagjkmeeiaaDoorDivN
namespace Go.Proofs.YtpflfagjkmeeiaaDoor
open Go Go.RowKit

theorem IntAt.mk {w : World} {k n cap m : Nat} {ao : Option Addr} (h : NatAt w k ao n cap m) (s : Bool) (h0 : n ≠ 0) : IntAt w k s ao n cap (if s then -(m : Int) else m) := ⟨m, h, fun h => absurd h h0, rfl⟩
theorem IntAt.zero {w : World} : IntAt w 0 false none 0 0 0 := ⟨0, ⟨[], wd_nil _ _ _ (by omega), by omega, by omega, rfl⟩, fun _ => rfl, rfl⟩

/-- What lay there before reads as it does now. -/
theorem NatAt.back {w0 w : World} {k n n' cap cap' m : Nat} {ao : Option Addr} {xs : List Nat} (h : NatAt w k ao n' cap' m) (h0 : Wd w0 ao n cap xs) (e : Ext w0 w) (hn : n' ≤ n) : NatAt w0 k ao n' cap' m := by
  obtain ⟨ys, a, b⟩ := h
  refine ⟨ys, ⟨a.len, a.capo, a.big, a.lt, ?_⟩, b⟩
  rcases h0.at_ with h1 | ⟨b1, off, h1, h2, h3⟩
  · left; omega
  · refine .inr ⟨b1, off, h1, h2, fun j hj => ?_⟩
    subst h1
    have c1 := h3 j (by omega)
    have c2 := a.cell j hj
    rw [e.cell c1] at c2
    rw [c1, c2]

set_option maxHeartbeats 400000 in
theorem of_c (w : World) (s : Bool) (ao : Option Addr) (n cap : Nat) (xs : List Nat) (z : Int) (h : Wd w ao n cap xs) (hz : z = if s then -(natVal xs : Int) else natVal xs) :
    Calls Tryd.prog 37 #[.bool s, .slice ao n cap] w (RInt w n z) := by
  have h1 := hid (trim_wd _ ao n cap xs (h.ext ((Ext.refl w).alloc (.cells #[.bool false, .slice none 0 0] 27))))
  have Hz := hid hz
  have Hh := hid h
  clear hz h
  go_enter Tryd.func37, Tryd.ntmps37
  go_wp2_with fail
  refine (h1.out).mono ?_
  rintro e w' ⟨n', rfl, rfl, hn⟩
  clear h1
  have hle := hn.le
  have hn := hn.back Hh.out ((Ext.refl w).alloc _) hle
  by_cases h0 : n' = 0
  · have hm := (hn.zero).2 h0
    have hz0 : z = 0 := by rw [Hz.out, hm]; cases s <;> rfl
    subst h0
    go_wp2_with fail
    refine bodyPost_ret (v := .agg #[.bool false, .slice none 0 0]) (by simp [results, Tryd.results37, go_sem]) rfl ?_
    rw [hz0]
    exact ⟨_, _, _, _, rfl, (Ext.refl w).alloc _, IntAt.zero.mono (by omega)⟩
  · have h0' : ((n' : Int) == 0) = false := by rw [beq_eq_false_iff_ne]; omega
    have h00 := hid h0
    clear h0
    go_wp2_with fail
    refine bodyPost_ret (v := .agg #[.bool s, .slice ao n' cap]) (by simp [results, Tryd.results37, go_sem]) rfl ?_
    refine ⟨_, _, _, _, rfl, (Ext.refl w).alloc _, ?_⟩
    rw [Hz.out]
    exact IntAt.mk (hn.ext ((Ext.refl w).alloc _)) s h00.out

/-- The world behind a struct of two fields laid in a new block. -/
def boxed (w : World) (s : Bool) (ao : Option Addr) (n cap : Nat) : World := w.alloc (.cells #[.bool s, .slice ao n cap] 27)
theorem boxed_ext (w : World) (s : Bool) (ao : Option Addr) (n cap : Nat) : Ext w (boxed w s ao n cap) := (Ext.refl w).alloc _

set_option maxHeartbeats 400000 in
theorem Sign_c (w : World) (s : Bool) (ao : Option Addr) (n cap k : Nat) (z : Int) (h : IntAt w k s ao n cap z) :
    Calls Tryd.prog 15 #[.agg #[.bool s, .slice ao n cap]] w (RVal w (.int .i64 z.sign)) := by
  obtain ⟨m, hm, hs, hz⟩ := h
  have hz0 := hm.zero
  rcases Nat.eq_zero_or_pos n with h0 | h0
  · have : z.sign = 0 := by
      rw [hz, hz0.2 h0]; cases s <;> rfl
    rw [this]
    subst h0
    clear hm hs hz hz0 this
    go_enter Tryd.func15, Tryd.ntmps15
    go_wp2
    go_ret
    exact ⟨rfl, (Ext.refl w).alloc _⟩
  · have hm0 : m ≠ 0 := fun h => by have := hz0.1 h; omega
    have h1 : ((n : Int) == 0) = false := by rw [beq_eq_false_iff_ne]; omega
    cases s
    · have : z.sign = 1 := by rw [hz]; exact Int.sign_eq_one_of_pos (by simp; omega)
      rw [this]
      clear hm hs hz hz0 this hm0 h0
      go_enter Tryd.func15, Tryd.ntmps15
      go_wp2
      go_ret
      exact ⟨rfl, (Ext.refl w).alloc _⟩
    · have : z.sign = -1 := by rw [hz]; exact Int.sign_eq_neg_one_of_neg (by simp; omega)
      rw [this]
      clear hm hs hz hz0 this hm0 h0
      go_enter Tryd.func15, Tryd.ntmps15
      go_wp2
      go_ret
      exact ⟨rfl, (Ext.refl w).alloc _⟩
end Go.Proofs.YtpflfagjkmeeiaaDoor
