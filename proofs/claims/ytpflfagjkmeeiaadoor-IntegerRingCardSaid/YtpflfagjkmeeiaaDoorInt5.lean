/-
  Integers of package integer: Of. Every int64.
-/
import Derived.Test.YtpflfagjkmeeiaaDoorInt4
import Derived.Test.YtpflfagjkmeeiaaDoorKeep2
namespace Go.Proofs.YtpflfagjkmeeiaaDoor
open Go Go.RowKit

/-- A new row of two words. -/
theorem wd_new2 (w : World) (a b : Nat) (ha : a < 4294967296) (hb : b < 4294967296) : Wd (w.alloc (.cells #[.int .u32 (a : Nat), .int .u32 (b : Nat)] 66)) (some ⟨w.heap.size, 0, none⟩) 2 2 [a, b] := by
  have ho : Own (w.alloc (.cells #[.int .u32 (a : Nat), .int .u32 (b : Nat)] 66)) w.heap.size [a, b] := by
    show (w.heap.push _)[w.heap.size]? = _
    simp [wcells]
  have := ho.wd (fun i => by match i with | 0 => simpa using ha | 1 => simpa using hb | i + 2 => simp) 2 (by simp) (by omega)
  simpa using this

theorem of_wrap (n : Int) (h0 : -9223372036854775808 ≤ n) (h1 : n ≤ 9223372036854775807) : IntKind.u64.wrap (max n (wrap64 (-n))) = (n.natAbs : Int) := by
  simp only [wrap64, IntKind.wrap_u64]
  omega
theorem of_val (n : Int) (v a b : Nat) (hv : v = n.natAbs) (ha : a = v % 4294967296) (hb : b = v / 4294967296) : n = if decide (n < 0) then -(natVal [a, b] : Int) else natVal [a, b] := by
  have : natVal [a, b] = v := by simp only [natVal]; omega
  rw [this]
  by_cases h : n < 0 <;> simp [h] <;> omega

set_option maxHeartbeats 1000000 in
theorem Of_c (w : World) (n : Int) (h0 : -9223372036854775808 ≤ n) (h1 : n ≤ 9223372036854775807) : Calls Tryd.prog 23 #[.int .i64 n] w (RInt w 2 n) := by
  obtain ⟨v, hv⟩ : ∃ v : Nat, v = n.natAbs := ⟨_, rfl⟩
  obtain ⟨a, ha⟩ : ∃ a : Nat, a = v % 4294967296 := ⟨_, rfl⟩
  obtain ⟨b, hb⟩ : ∃ b : Nat, b = v / 4294967296 := ⟨_, rfl⟩
  have Hz := hid (of_val n v a b hv ha hb)
  have hE := of_wrap n h0 h1
  rw [← hv] at hE
  have hE2 : max n (-n) = (v : Int) := by omega
  have h2 : (v : Int) % 4294967296 = (a : Int) := by omega
  have h3 : (v : Int) / 4294967296 = (b : Int) := by omega
  have hal : a < 4294967296 := by omega
  have hbl : b < 4294967296 := by omega
  obtain ⟨W, hW⟩ : ∃ W, W = w.alloc (.cells #[.bool false, .slice none 0 0] 27) := ⟨_, rfl⟩
  have hwd := wd_new2 W a b hal hbl
  have hWs : W.heap.size = w.heap.size + 1 := by rw [hW]; simp
  rw [hWs] at hwd
  have hR := hid (fun (s : Bool) (hs : decide (n < 0) = s) => of_c (W.alloc (.cells #[.int .u32 (a : Nat), .int .u32 (b : Nat)] 66)) s _ 2 2 [a, b] n hwd (by rw [← hs]; exact Hz.out))
  clear hwd
  have K0 : Kp w W [] [(0, 2)] := hW ▸ (Kp.start w).out 0 rfl [.bool false, .slice none 0 0] 27 (by
    intro v hv; simp at hv; rcases hv with rfl | rfl
    · exact NoWord.bool _
    · exact NoWord.slice _ _ _)
  clear hv ha hb Hz hWs
  by_cases hn : n < 0
  · go_enter Tryd.func23, Tryd.ntmps23
    go_wp2_with fail
    rw [← hW]
    clear hW
    refine Calls.mono (hR.out true (by simp [hn])) ?_
    rintro e w2 ⟨s3, a3, n3, c3, rfl, e2, h3'⟩
    have KF := (K0.after ((Ext.refl W).alloc _)).after e2
    obtain ⟨⟨_, r0, _⟩, f0⟩ := Kp.res KF 0 2 (by simp) 0 (by omega); obtain ⟨⟨_, r1, _⟩, f1⟩ := Kp.res KF 0 2 (by simp) 1 (by omega)
    simp only [Nat.add_zero] at r0 r1 f0 f1
    have h3 := h3'
    clear hR K0 hE hE2 h2
    go_wp2_with fail
    refine bodyPost_ret (v := .agg #[.bool s3, .slice a3 n3 c3]) (by simp [results, Tryd.results23, go_sem, r0, r1]) rfl (Kp.fin KF 0 (by simp) (by simp) h3)
  · go_enter Tryd.func23, Tryd.ntmps23
    go_wp2_with fail
    rw [← hW]
    clear hW
    refine Calls.mono (hR.out false (by simp [hn])) ?_
    rintro e w2 ⟨s3, a3, n3, c3, rfl, e2, h3'⟩
    have KF := (K0.after ((Ext.refl W).alloc _)).after e2
    obtain ⟨⟨_, r0, _⟩, f0⟩ := Kp.res KF 0 2 (by simp) 0 (by omega); obtain ⟨⟨_, r1, _⟩, f1⟩ := Kp.res KF 0 2 (by simp) 1 (by omega)
    simp only [Nat.add_zero] at r0 r1 f0 f1
    have h3 := h3'
    clear hR K0 hE hE2 h2
    go_wp2_with fail
    refine bodyPost_ret (v := .agg #[.bool s3, .slice a3 n3 c3]) (by simp [results, Tryd.results23, go_sem, r0, r1]) rfl (Kp.fin KF 0 (by simp) (by simp) h3)
end Go.Proofs.YtpflfagjkmeeiaaDoor
