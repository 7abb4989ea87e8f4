/-
  Valid of both packages at canonical integers.
-/
import Derived.Test.YtcgdkfadcglekaaGreatDoorRgm
namespace Go.Proofs.YtcgdkfadcglekaaGreatDoor
open Go Go.RowKit
theorem IntAt.top {w : World} {k n cap : Nat} {s : Bool} {ao : Option Addr} {z : Int} (h : IntAt w k s ao n cap z) (h0 : 0 < n) : ∃ b off x, ao = some ⟨b, off, none⟩ ∧ w.cell? ⟨b, off + (n - 1), none⟩ = some (.int .u32 (x : Nat)) ∧ x ≠ 0 ∧ n ≤ cap ∧ cap ≤ 9223372036854775807 := by
  obtain ⟨m, ⟨xs, hw, _, hz, _⟩, _⟩ := h
  rcases hw.at_ with h1 | ⟨b, off, h1, _, h3⟩
  · omega
  · exact ⟨b, off, _, h1, h3 (n - 1) (by omega), hz h0, hw.capo, hw.big⟩
theorem Valid_c (w : World) (s1 : Bool) (a1 : Option Addr) (n1 c1 k1 : Nat) (z1 : Int) (h1 : IntAt w k1 s1 a1 n1 c1 z1) : Calls Tryz.prog 91 #[.agg #[.bool s1, .slice a1 n1 c1]] w (Ret w (IsV (.bool true))) := by
  obtain ⟨W, hW, K0⟩ : ∃ W, W = w.alloc (.cells #[.bool s1, .slice a1 n1 c1] 29) ∧ Kq w W [(w.heap.size, [.bool s1, .slice a1 n1 c1])] := ⟨_, rfl, by simpa using (Kq.start w).alloc [.bool s1, .slice a1 n1 c1] 29⟩; have b1 := K0.bx w.heap.size s1 a1 n1 c1 (by simp); have E := hid K0.ext; clear K0
  rcases Nat.eq_zero_or_pos n1 with h0 | h0
  · subst h0
    obtain rfl : s1 = false := by obtain ⟨m, _, h, _⟩ := h1; exact h rfl
    clear h1
    go_enter Tryz.func91, Tryz.ntmps91
    go_upto_region 1 with (fail)
    rw [← hW]
    clear hW
    have F1 := b1.c0; have F2 := b1.c1; have F3 := b1.f0; have F4 := b1.f1
    go_wp2_with fail
    exact bodyPost_ret (v := .bool true) (by simp [results, Tryz.results91, go_sem]) rfl ⟨_, rfl, E.out, rfl⟩
  · obtain ⟨b, off, x, rfl, hc, hx, hcap, hbig⟩ := (h1.ext E.out).top h0
    have hn : ((n1 : Int) == 0) = false := by rw [beq_eq_false_iff_ne]; omega
    have hx2 : ((x : Int) == 0) = false := by rw [beq_eq_false_iff_ne]; omega
    have hx3 : ((x : Int) != 0) = true := by simp; omega
    clear h1 hx
    go_enter Tryz.func91, Tryz.ntmps91
    go_upto_region 1 with (fail)
    rw [← hW]
    clear hW
    have F1 := b1.c0; have F2 := b1.c1; have F3 := b1.f0; have F4 := b1.f1
    go_wp2_with fail
    exact bodyPost_ret (v := .bool true) (by simp [results, Tryz.results91, go_sem]) rfl ⟨_, rfl, E.out, rfl⟩
theorem RValid_c (w : World) (s1 : Bool) (a1 : Option Addr) (n1 c1 k1 : Nat) (z1 : Int) (h1 : IntAt w k1 s1 a1 n1 c1 z1) : Calls Tryz.prog 89 #[.agg #[.bool s1, .slice a1 n1 c1]] w (Ret w (IsV (.bool true))) := by
  obtain ⟨W, hW, K0⟩ : ∃ W, W = w.alloc (.cells #[.bool s1, .slice a1 n1 c1] 29) ∧ Kq w W [(w.heap.size, [.bool s1, .slice a1 n1 c1])] := ⟨_, rfl, by simpa using (Kq.start w).alloc [.bool s1, .slice a1 n1 c1] 29⟩; have b1 := K0.bx w.heap.size s1 a1 n1 c1 (by simp); have E := hid K0.ext; clear K0
  rcases Nat.eq_zero_or_pos n1 with h0 | h0
  · subst h0
    obtain rfl : s1 = false := by obtain ⟨m, _, h, _⟩ := h1; exact h rfl
    clear h1
    go_enter Tryz.func89, Tryz.ntmps89
    go_upto_region 1 with (fail)
    rw [← hW]
    clear hW
    have F1 := b1.c0; have F2 := b1.c1; have F3 := b1.f0; have F4 := b1.f1
    go_wp2_with fail
    exact bodyPost_ret (v := .bool true) (by simp [results, Tryz.results89, go_sem]) rfl ⟨_, rfl, E.out, rfl⟩
  · obtain ⟨b, off, x, rfl, hc, hx, hcap, hbig⟩ := (h1.ext E.out).top h0
    have hn : ((n1 : Int) == 0) = false := by rw [beq_eq_false_iff_ne]; omega
    have hn2 : decide ((0 : Int) < (n1 : Int)) = true := by simp; omega
    have hx2 : ((x : Int) == 0) = false := by rw [beq_eq_false_iff_ne]; omega
    have hx3 : ((x : Int) != 0) = true := by simp; omega
    clear h1 hx
    go_enter Tryz.func89, Tryz.ntmps89
    go_upto_region 1 with (fail)
    rw [← hW]
    clear hW
    have F1 := b1.c0; have F2 := b1.c1; have F3 := b1.f0; have F4 := b1.f1
    go_wp2_with fail
    exact bodyPost_ret (v := .bool true) (by simp [results, Tryz.results89, go_sem]) rfl ⟨_, rfl, E.out, rfl⟩
theorem Valid_f {k1 : Nat} {z1 : Int} {x : Value} {w : World} (hx : IsI k1 z1 x w) : Calls Tryz.prog 91 #[x] w (Ret w (IsV (.bool true))) := by
  obtain ⟨s, a, n, c, rfl, h1⟩ := hx
  exact Valid_c w s a n c k1 z1 h1
theorem RValid_f {k1 : Nat} {z1 : Int} {x : Value} {w : World} (hx : IsI k1 z1 x w) : Calls Tryz.prog 89 #[x] w (Ret w (IsV (.bool true))) := by
  obtain ⟨s, a, n, c, rfl, h1⟩ := hx
  exact RValid_c w s a n c k1 z1 h1
end Go.Proofs.YtcgdkfadcglekaaGreatDoor
