/-
  Valid of both packages at every integer that stands in memory, canonical or not: both answer the same.
-/
import Derived.Test.YtcgdkfadcglekaaGreatDoorRgm
namespace Go.Proofs.YtcgdkfadcglekaaGreatDoor
open Go Go.RowKit
/-- What both answer. -/
def validb (s : Bool) (xs : List Nat) : Bool := if xs.length = 0 then !s else xs.getD (xs.length - 1) 0 != 0
theorem Wd.top {w : World} {n cap : Nat} {ao : Option Addr} {xs : List Nat} (hw : Wd w ao n cap xs) (h0 : 0 < n) : ∃ b off, ao = some ⟨b, off, none⟩ ∧ w.cell? ⟨b, off + (n - 1), none⟩ = some (.int .u32 (xs.getD (n - 1) 0 : Nat)) ∧ n ≤ cap ∧ cap ≤ 9223372036854775807 := by
  rcases hw.at_ with h1 | ⟨b, off, h1, _, h3⟩
  · omega
  · exact ⟨b, off, h1, h3 (n - 1) (by omega), hw.capo, hw.big⟩
theorem Valid_w (w : World) (s1 : Bool) (a1 : Option Addr) (n1 c1 : Nat) (xs : List Nat) (h1 : Wd w a1 n1 c1 xs) : Calls Tryz.prog 91 #[.agg #[.bool s1, .slice a1 n1 c1]] w (Ret w (IsV (.bool (validb s1 xs)))) := by
  obtain ⟨W, hW, K0⟩ : ∃ W, W = w.alloc (.cells #[.bool s1, .slice a1 n1 c1] 29) ∧ Kq w W [(w.heap.size, [.bool s1, .slice a1 n1 c1])] := ⟨_, rfl, by simpa using (Kq.start w).alloc [.bool s1, .slice a1 n1 c1] 29⟩; have b1 := K0.bx w.heap.size s1 a1 n1 c1 (by simp); have E := hid K0.ext; clear K0
  rcases Nat.eq_zero_or_pos n1 with h0 | h0
  · subst h0
    have hv : validb s1 xs = !s1 := by unfold validb; rw [if_pos h1.len]
    rw [hv]
    clear h1 hv
    go_enter Tryz.func91, Tryz.ntmps91
    go_upto_region 1 with (fail)
    rw [← hW]
    clear hW
    have F1 := b1.c0; have F2 := b1.c1; have F3 := b1.f0; have F4 := b1.f1
    go_wp2_with fail
    exact bodyPost_ret (v := .bool (!s1)) (by simp [results, Tryz.results91, go_sem]) rfl ⟨_, rfl, E.out, rfl⟩
  · obtain ⟨b, off, rfl, hc, hcap, hbig⟩ := (h1.ext E.out).top h0
    have hv : validb s1 xs = (xs.getD (n1 - 1) 0 != 0) := by unfold validb; rw [if_neg (by rw [h1.len]; omega), h1.len]
    rw [hv]
    have hn : ((n1 : Int) == 0) = false := by rw [beq_eq_false_iff_ne]; omega
    obtain ⟨q, hq⟩ : ∃ q, (xs.getD (n1 - 1) 0 != 0) = q := ⟨_, rfl⟩
    rw [hq]
    generalize xs.getD (n1 - 1) 0 = x at *
    have hx3 : ((x : Int) != 0) = q := by rw [← hq]; cases hx : (x != 0) <;> simp at hx ⊢ <;> omega
    clear h1 hq hv
    go_enter Tryz.func91, Tryz.ntmps91
    go_upto_region 1 with (fail)
    rw [← hW]
    clear hW
    have F1 := b1.c0; have F2 := b1.c1; have F3 := b1.f0; have F4 := b1.f1
    go_wp2_with fail
    exact bodyPost_ret (v := .bool q) (by simp [results, Tryz.results91, go_sem]) rfl ⟨_, rfl, E.out, rfl⟩
theorem RValid_w (w : World) (s1 : Bool) (a1 : Option Addr) (n1 c1 : Nat) (xs : List Nat) (h1 : Wd w a1 n1 c1 xs) : Calls Tryz.prog 89 #[.agg #[.bool s1, .slice a1 n1 c1]] w (Ret w (IsV (.bool (validb s1 xs)))) := by
  obtain ⟨W, hW, K0⟩ : ∃ W, W = w.alloc (.cells #[.bool s1, .slice a1 n1 c1] 29) ∧ Kq w W [(w.heap.size, [.bool s1, .slice a1 n1 c1])] := ⟨_, rfl, by simpa using (Kq.start w).alloc [.bool s1, .slice a1 n1 c1] 29⟩; have b1 := K0.bx w.heap.size s1 a1 n1 c1 (by simp); have E := hid K0.ext; clear K0
  rcases Nat.eq_zero_or_pos n1 with h0 | h0
  · subst h0
    have hv : validb s1 xs = !s1 := by unfold validb; rw [if_pos h1.len]
    rw [hv]
    clear h1 hv
    go_enter Tryz.func89, Tryz.ntmps89
    go_upto_region 1 with (fail)
    rw [← hW]
    clear hW
    have F1 := b1.c0; have F2 := b1.c1; have F3 := b1.f0; have F4 := b1.f1
    cases s1
    · go_wp2_with fail
      exact bodyPost_ret (v := .bool true) (by simp [results, Tryz.results89, go_sem]) rfl ⟨_, rfl, E.out, rfl⟩
    · go_wp2_with fail
      exact bodyPost_ret (v := .bool false) (by simp [results, Tryz.results89, go_sem]) rfl ⟨_, rfl, E.out, rfl⟩
  · obtain ⟨b, off, rfl, hc, hcap, hbig⟩ := (h1.ext E.out).top h0
    have hv : validb s1 xs = (xs.getD (n1 - 1) 0 != 0) := by unfold validb; rw [if_neg (by rw [h1.len]; omega), h1.len]
    rw [hv]
    have hn : ((n1 : Int) == 0) = false := by rw [beq_eq_false_iff_ne]; omega
    have hn2 : decide ((0 : Int) < (n1 : Int)) = true := by simp; omega
    obtain ⟨q, hq⟩ : ∃ q, (xs.getD (n1 - 1) 0 != 0) = q := ⟨_, rfl⟩
    rw [hq]
    generalize xs.getD (n1 - 1) 0 = x at *
    have hx3 : ((x : Int) != 0) = q := by rw [← hq]; cases hx : (x != 0) <;> simp at hx ⊢ <;> omega
    clear h1 hq hv
    go_enter Tryz.func89, Tryz.ntmps89
    go_upto_region 1 with (fail)
    rw [← hW]
    clear hW
    have F1 := b1.c0; have F2 := b1.c1; have F3 := b1.f0; have F4 := b1.f1
    go_wp2_with fail
    exact bodyPost_ret (v := .bool q) (by simp [results, Tryz.results89, go_sem]) rfl ⟨_, rfl, E.out, rfl⟩
end Go.Proofs.YtcgdkfadcglekaaGreatDoor
