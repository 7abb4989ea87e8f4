/-
 Package prime: isPrime of a number that one of the bases divides; Is of it. (Printed by wip/gen/pri.py.)
 Package density: Local, at a prime.
 Package genus: odd, special.
 Rows that a call makes by append, of elements of any size: reading, keeping, and the append itself.
-/
import Derived.Test.YtknffgdbdadpcaaGreatDoorPrt
import Derived.Test.YtknffgdbdadpcaaGreatDoorDen23
import Derived.Maps.AppendAt
import Derived.RangeFuncBox
import Derived.Test.YtknffgdbdadpcaaGreatDoorAdd
import Derived.Test.YtknffgdbdadpcaaGreatDoorRg
namespace Go.Proofs.YtknffgdbdadpcaaGreatDoor
open Go Go.RowKit

set_option maxRecDepth 100000 in
theorem pri_ix0 (w : World) : (Instr.index 168 (.agg #[.int .u64 2, .int .u64 3, .int .u64 5, .int .u64 7, .int .u64 11, .int .u64 13, .int .u64 17, .int .u64 19, .int .u64 23, .int .u64 29, .int .u64 31, .int .u64 37, .int .u64 41]) (.int .i64 0)).run Tryz.prog w = .ok (.int .u64 2) w := by
 first
 | rfl
 | (simp [Instr.index, go_sem]; done)
set_option maxRecDepth 100000 in
theorem pri_ix1 (w : World) : (Instr.index 168 (.agg #[.int .u64 2, .int .u64 3, .int .u64 5, .int .u64 7, .int .u64 11, .int .u64 13, .int .u64 17, .int .u64 19, .int .u64 23, .int .u64 29, .int .u64 31, .int .u64 37, .int .u64 41]) (.int .i64 1)).run Tryz.prog w = .ok (.int .u64 3) w := by
 first
 | rfl
 | (simp [Instr.index, go_sem]; done)
set_option maxRecDepth 100000 in
theorem pri_ix2 (w : World) : (Instr.index 168 (.agg #[.int .u64 2, .int .u64 3, .int .u64 5, .int .u64 7, .int .u64 11, .int .u64 13, .int .u64 17, .int .u64 19, .int .u64 23, .int .u64 29, .int .u64 31, .int .u64 37, .int .u64 41]) (.int .i64 2)).run Tryz.prog w = .ok (.int .u64 5) w := by
 first
 | rfl
 | (simp [Instr.index, go_sem]; done)
set_option maxRecDepth 100000 in
theorem pri_ix3 (w : World) : (Instr.index 168 (.agg #[.int .u64 2, .int .u64 3, .int .u64 5, .int .u64 7, .int .u64 11, .int .u64 13, .int .u64 17, .int .u64 19, .int .u64 23, .int .u64 29, .int .u64 31, .int .u64 37, .int .u64 41]) (.int .i64 3)).run Tryz.prog w = .ok (.int .u64 7) w := by
 first
 | rfl
 | (simp [Instr.index, go_sem]; done)
set_option maxRecDepth 100000 in
theorem pri_ix4 (w : World) : (Instr.index 168 (.agg #[.int .u64 2, .int .u64 3, .int .u64 5, .int .u64 7, .int .u64 11, .int .u64 13, .int .u64 17, .int .u64 19, .int .u64 23, .int .u64 29, .int .u64 31, .int .u64 37, .int .u64 41]) (.int .i64 4)).run Tryz.prog w = .ok (.int .u64 11) w := by
 first
 | rfl
 | (simp [Instr.index, go_sem]; done)
set_option maxRecDepth 100000 in
theorem pri_ix5 (w : World) : (Instr.index 168 (.agg #[.int .u64 2, .int .u64 3, .int .u64 5, .int .u64 7, .int .u64 11, .int .u64 13, .int .u64 17, .int .u64 19, .int .u64 23, .int .u64 29, .int .u64 31, .int .u64 37, .int .u64 41]) (.int .i64 5)).run Tryz.prog w = .ok (.int .u64 13) w := by
 first
 | rfl
 | (simp [Instr.index, go_sem]; done)
set_option maxRecDepth 100000 in
theorem pri_ix6 (w : World) : (Instr.index 168 (.agg #[.int .u64 2, .int .u64 3, .int .u64 5, .int .u64 7, .int .u64 11, .int .u64 13, .int .u64 17, .int .u64 19, .int .u64 23, .int .u64 29, .int .u64 31, .int .u64 37, .int .u64 41]) (.int .i64 6)).run Tryz.prog w = .ok (.int .u64 17) w := by
 first
 | rfl
 | (simp [Instr.index, go_sem]; done)
set_option maxRecDepth 100000 in
theorem pri_ix7 (w : World) : (Instr.index 168 (.agg #[.int .u64 2, .int .u64 3, .int .u64 5, .int .u64 7, .int .u64 11, .int .u64 13, .int .u64 17, .int .u64 19, .int .u64 23, .int .u64 29, .int .u64 31, .int .u64 37, .int .u64 41]) (.int .i64 7)).run Tryz.prog w = .ok (.int .u64 19) w := by
 first
 | rfl
 | (simp [Instr.index, go_sem]; done)
set_option maxRecDepth 100000 in
theorem pri_ix8 (w : World) : (Instr.index 168 (.agg #[.int .u64 2, .int .u64 3, .int .u64 5, .int .u64 7, .int .u64 11, .int .u64 13, .int .u64 17, .int .u64 19, .int .u64 23, .int .u64 29, .int .u64 31, .int .u64 37, .int .u64 41]) (.int .i64 8)).run Tryz.prog w = .ok (.int .u64 23) w := by
 first
 | rfl
 | (simp [Instr.index, go_sem]; done)
set_option maxRecDepth 100000 in
theorem pri_ix9 (w : World) : (Instr.index 168 (.agg #[.int .u64 2, .int .u64 3, .int .u64 5, .int .u64 7, .int .u64 11, .int .u64 13, .int .u64 17, .int .u64 19, .int .u64 23, .int .u64 29, .int .u64 31, .int .u64 37, .int .u64 41]) (.int .i64 9)).run Tryz.prog w = .ok (.int .u64 29) w := by
 first
 | rfl
 | (simp [Instr.index, go_sem]; done)
set_option maxRecDepth 100000 in
theorem pri_ix10 (w : World) : (Instr.index 168 (.agg #[.int .u64 2, .int .u64 3, .int .u64 5, .int .u64 7, .int .u64 11, .int .u64 13, .int .u64 17, .int .u64 19, .int .u64 23, .int .u64 29, .int .u64 31, .int .u64 37, .int .u64 41]) (.int .i64 10)).run Tryz.prog w = .ok (.int .u64 31) w := by
 first
 | rfl
 | (simp [Instr.index, go_sem]; done)
set_option maxRecDepth 100000 in
theorem pri_ix11 (w : World) : (Instr.index 168 (.agg #[.int .u64 2, .int .u64 3, .int .u64 5, .int .u64 7, .int .u64 11, .int .u64 13, .int .u64 17, .int .u64 19, .int .u64 23, .int .u64 29, .int .u64 31, .int .u64 37, .int .u64 41]) (.int .i64 11)).run Tryz.prog w = .ok (.int .u64 37) w := by
 first
 | rfl
 | (simp [Instr.index, go_sem]; done)
set_option maxRecDepth 100000 in
theorem pri_ix12 (w : World) : (Instr.index 168 (.agg #[.int .u64 2, .int .u64 3, .int .u64 5, .int .u64 7, .int .u64 11, .int .u64 13, .int .u64 17, .int .u64 19, .int .u64 23, .int .u64 29, .int .u64 31, .int .u64 37, .int .u64 41]) (.int .i64 12)).run Tryz.prog w = .ok (.int .u64 41) w := by
 first
 | rfl
 | (simp [Instr.index, go_sem]; done)
set_option maxRecDepth 100000 in
set_option maxHeartbeats 8000000 in
theorem isPrime_d (w : World) (N i0 : Nat) (hN : N < 18446744073709551616) (hi0 : i0 < 13) (hd : N % prBases.getD i0 1 = 0) (hlt : ∀ j, j < i0 → N % prBases.getD j 1 ≠ 0) :
  Calls Tryz.prog 86 #[.int .u64 ((N : Nat) : Int)] w (Ret w (IsV (.bool (((N : Nat) : Int) == ((prBases.getD i0 1 : Nat) : Int))))) := by
 obtain ⟨W, hW, E, C1⟩ : ∃ W, W = w.alloc (.cells #[.int .u64 ((N : Nat) : Int)] 99) ∧ Ext w W ∧ World.cell? W ⟨w.heap.size, 0, none⟩ = some (.int .u64 ((N : Nat) : Int)) :=
  ⟨_, rfl, (Ext.refl _).alloc _, by simp⟩
 have HN := hid hN
 have HD := hid hd
 have HLT := hid hlt
 clear hN hd hlt
 go_enter Tryz.func86, Tryz.ntmps86
 go_upto_region 1 with (fail)
 rw [← hW]
 clear hW
 go_upto_region 2 with (fail)
 obtain ⟨W2, hW2⟩ : ∃ W2, W.alloc (.cells #[.int .u64 2, .int .u64 3, .int .u64 5, .int .u64 7, .int .u64 11, .int .u64 13, .int .u64 17, .int .u64 19, .int .u64 23, .int .u64 29, .int .u64 31, .int .u64 37, .int .u64 41] 168) = W2 := ⟨_, rfl⟩
 have E2 : Ext W W2 := by rw [← hW2]; exact (Ext.refl _).alloc _
 have C2 : World.cell? W2 ⟨w.heap.size, 0, none⟩ = some (.int .u64 ((N : Nat) : Int)) := E2.cell C1
 have hld : ∀ (j : Nat) (v : Value), (#[.int .u64 2, .int .u64 3, .int .u64 5, .int .u64 7, .int .u64 11, .int .u64 13, .int .u64 17, .int .u64 19, .int .u64 23, .int .u64 29, .int .u64 31, .int .u64 37, .int .u64 41] : Array Value)[j]? = some v → World.cell? W2 ⟨W.heap.size, j, none⟩ = some v := by
  intro j v hj
  rw [← hW2]
  exact cell_newAt _ _ rfl _ _ _ _ hj
 have M0 := hld 0 _ rfl
 have M1 := hld 1 _ rfl
 have M2 := hld 2 _ rfl
 have M3 := hld 3 _ rfl
 have M4 := hld 4 _ rfl
 have M5 := hld 5 _ rfl
 have M6 := hld 6 _ rfl
 have M7 := hld 7 _ rfl
 have M8 := hld 8 _ rfl
 have M9 := hld 9 _ rfl
 have M10 := hld 10 _ rfl
 have M11 := hld 11 _ rfl
 have M12 := hld 12 _ rfl
 rw [hW2]
 clear hW2 hld
 go_wp2_with fail
 clear M0 M1 M2 M3 M4 M5 M6 M7 M8 M9 M10 M11 M12
 go_loopg [8] i0 (fun gk v8 wr => ∃ (i : Nat) (z : Int), v8 = .int .i64 z ∧ z = ((i : Nat) : Int) ∧ i + gk = i0 ∧ wr = W2)
 case atStart => exact ⟨0, 0, rfl, rfl, by omega, rfl⟩
 case round =>
  obtain ⟨i, z, rfl, hz, hg, rfl⟩ := hrel
  rcases (show i = 0 ∨ i = 1 ∨ i = 2 ∨ i = 3 ∨ i = 4 ∨ i = 5 ∨ i = 6 ∨ i = 7 ∨ i = 8 ∨ i = 9 ∨ i = 10 ∨ i = 11 ∨ i = 12 by omega) with rfl | rfl | rfl | rfl | rfl | rfl | rfl | rfl | rfl | rfl | rfl | rfl | rfl
  ·obtain rfl : z = 0 := by omega
   clear hz
   have hix := pri_ix0 wr
   rcases Nat.eq_zero_or_pos gk with h0 | h0
   ·obtain rfl : i0 = 0 := by omega
    have hr : N % 2 = 0 := HD.out
    have hx1 : ((N : Nat) : Int).tmod 2 = 0 := by rw [Int.tmod_eq_emod_of_nonneg (by omega)]; omega
    have hx2 : ((N : Nat) : Int) % 2 = 0 := by omega
    clear hg hr h0
    go_wp2_with fail
    exact bodyPost_ret (v := .bool (((N : Nat) : Int) == 2)) (by simp [results, Tryz.results86, go_sem]) rfl ⟨_, rfl, E.trans E2, rfl⟩
   ·have hr : N % 2 ≠ 0 := HLT.out 0 (by omega)
    obtain ⟨r, hr2⟩ : ∃ r, N % 2 = r := ⟨_, rfl⟩
    have hrb : r < 2 := by rw [← hr2]; exact Nat.mod_lt _ (by decide)
    have hx1 : ((N : Nat) : Int).tmod 2 = ((r : Nat) : Int) := by rw [Int.tmod_eq_emod_of_nonneg (by omega)]; omega
    have hx2 : ((N : Nat) : Int) % 2 = ((r : Nat) : Int) := by omega
    have hx3 : (((r : Nat) : Int) == 0) = false := by rw [beq_eq_false_iff_ne]; omega
    have hx4 : IntKind.u64.wrap ((r : Nat) : Int) = ((r : Nat) : Int) := by simp only [IntKind.wrap_u64]; omega
    have HG := hid (And.intro hg h0)
    clear hg hr hr2 hrb h0
    go_wp2_with fail
    go_roundg (gk - 1)
    case measure => have := HG.out; omega
    case rel => exact ⟨1, 1, rfl, rfl, by have := HG.out; omega, rfl⟩
  ·obtain rfl : z = 1 := by omega
   clear hz
   have hix := pri_ix1 wr
   rcases Nat.eq_zero_or_pos gk with h0 | h0
   ·obtain rfl : i0 = 1 := by omega
    have hr : N % 3 = 0 := HD.out
    have hx1 : ((N : Nat) : Int).tmod 3 = 0 := by rw [Int.tmod_eq_emod_of_nonneg (by omega)]; omega
    have hx2 : ((N : Nat) : Int) % 3 = 0 := by omega
    clear hg hr h0
    go_wp2_with fail
    exact bodyPost_ret (v := .bool (((N : Nat) : Int) == 3)) (by simp [results, Tryz.results86, go_sem]) rfl ⟨_, rfl, E.trans E2, rfl⟩
   ·have hr : N % 3 ≠ 0 := HLT.out 1 (by omega)
    obtain ⟨r, hr2⟩ : ∃ r, N % 3 = r := ⟨_, rfl⟩
    have hrb : r < 3 := by rw [← hr2]; exact Nat.mod_lt _ (by decide)
    have hx1 : ((N : Nat) : Int).tmod 3 = ((r : Nat) : Int) := by rw [Int.tmod_eq_emod_of_nonneg (by omega)]; omega
    have hx2 : ((N : Nat) : Int) % 3 = ((r : Nat) : Int) := by omega
    have hx3 : (((r : Nat) : Int) == 0) = false := by rw [beq_eq_false_iff_ne]; omega
    have hx4 : IntKind.u64.wrap ((r : Nat) : Int) = ((r : Nat) : Int) := by simp only [IntKind.wrap_u64]; omega
    have HG := hid (And.intro hg h0)
    clear hg hr hr2 hrb h0
    go_wp2_with fail
    go_roundg (gk - 1)
    case measure => have := HG.out; omega
    case rel => exact ⟨2, 2, rfl, rfl, by have := HG.out; omega, rfl⟩
  ·obtain rfl : z = 2 := by omega
   clear hz
   have hix := pri_ix2 wr
   rcases Nat.eq_zero_or_pos gk with h0 | h0
   ·obtain rfl : i0 = 2 := by omega
    have hr : N % 5 = 0 := HD.out
    have hx1 : ((N : Nat) : Int).tmod 5 = 0 := by rw [Int.tmod_eq_emod_of_nonneg (by omega)]; omega
    have hx2 : ((N : Nat) : Int) % 5 = 0 := by omega
    clear hg hr h0
    go_wp2_with fail
    exact bodyPost_ret (v := .bool (((N : Nat) : Int) == 5)) (by simp [results, Tryz.results86, go_sem]) rfl ⟨_, rfl, E.trans E2, rfl⟩
   ·have hr : N % 5 ≠ 0 := HLT.out 2 (by omega)
    obtain ⟨r, hr2⟩ : ∃ r, N % 5 = r := ⟨_, rfl⟩
    have hrb : r < 5 := by rw [← hr2]; exact Nat.mod_lt _ (by decide)
    have hx1 : ((N : Nat) : Int).tmod 5 = ((r : Nat) : Int) := by rw [Int.tmod_eq_emod_of_nonneg (by omega)]; omega
    have hx2 : ((N : Nat) : Int) % 5 = ((r : Nat) : Int) := by omega
    have hx3 : (((r : Nat) : Int) == 0) = false := by rw [beq_eq_false_iff_ne]; omega
    have hx4 : IntKind.u64.wrap ((r : Nat) : Int) = ((r : Nat) : Int) := by simp only [IntKind.wrap_u64]; omega
    have HG := hid (And.intro hg h0)
    clear hg hr hr2 hrb h0
    go_wp2_with fail
    go_roundg (gk - 1)
    case measure => have := HG.out; omega
    case rel => exact ⟨3, 3, rfl, rfl, by have := HG.out; omega, rfl⟩
  ·obtain rfl : z = 3 := by omega
   clear hz
   have hix := pri_ix3 wr
   rcases Nat.eq_zero_or_pos gk with h0 | h0
   ·obtain rfl : i0 = 3 := by omega
    have hr : N % 7 = 0 := HD.out
    have hx1 : ((N : Nat) : Int).tmod 7 = 0 := by rw [Int.tmod_eq_emod_of_nonneg (by omega)]; omega
    have hx2 : ((N : Nat) : Int) % 7 = 0 := by omega
    clear hg hr h0
    go_wp2_with fail
    exact bodyPost_ret (v := .bool (((N : Nat) : Int) == 7)) (by simp [results, Tryz.results86, go_sem]) rfl ⟨_, rfl, E.trans E2, rfl⟩
   ·have hr : N % 7 ≠ 0 := HLT.out 3 (by omega)
    obtain ⟨r, hr2⟩ : ∃ r, N % 7 = r := ⟨_, rfl⟩
    have hrb : r < 7 := by rw [← hr2]; exact Nat.mod_lt _ (by decide)
    have hx1 : ((N : Nat) : Int).tmod 7 = ((r : Nat) : Int) := by rw [Int.tmod_eq_emod_of_nonneg (by omega)]; omega
    have hx2 : ((N : Nat) : Int) % 7 = ((r : Nat) : Int) := by omega
    have hx3 : (((r : Nat) : Int) == 0) = false := by rw [beq_eq_false_iff_ne]; omega
    have hx4 : IntKind.u64.wrap ((r : Nat) : Int) = ((r : Nat) : Int) := by simp only [IntKind.wrap_u64]; omega
    have HG := hid (And.intro hg h0)
    clear hg hr hr2 hrb h0
    go_wp2_with fail
    go_roundg (gk - 1)
    case measure => have := HG.out; omega
    case rel => exact ⟨4, 4, rfl, rfl, by have := HG.out; omega, rfl⟩
  ·obtain rfl : z = 4 := by omega
   clear hz
   have hix := pri_ix4 wr
   rcases Nat.eq_zero_or_pos gk with h0 | h0
   ·obtain rfl : i0 = 4 := by omega
    have hr : N % 11 = 0 := HD.out
    have hx1 : ((N : Nat) : Int).tmod 11 = 0 := by rw [Int.tmod_eq_emod_of_nonneg (by omega)]; omega
    have hx2 : ((N : Nat) : Int) % 11 = 0 := by omega
    clear hg hr h0
    go_wp2_with fail
    exact bodyPost_ret (v := .bool (((N : Nat) : Int) == 11)) (by simp [results, Tryz.results86, go_sem]) rfl ⟨_, rfl, E.trans E2, rfl⟩
   ·have hr : N % 11 ≠ 0 := HLT.out 4 (by omega)
    obtain ⟨r, hr2⟩ : ∃ r, N % 11 = r := ⟨_, rfl⟩
    have hrb : r < 11 := by rw [← hr2]; exact Nat.mod_lt _ (by decide)
    have hx1 : ((N : Nat) : Int).tmod 11 = ((r : Nat) : Int) := by rw [Int.tmod_eq_emod_of_nonneg (by omega)]; omega
    have hx2 : ((N : Nat) : Int) % 11 = ((r : Nat) : Int) := by omega
    have hx3 : (((r : Nat) : Int) == 0) = false := by rw [beq_eq_false_iff_ne]; omega
    have hx4 : IntKind.u64.wrap ((r : Nat) : Int) = ((r : Nat) : Int) := by simp only [IntKind.wrap_u64]; omega
    have HG := hid (And.intro hg h0)
    clear hg hr hr2 hrb h0
    go_wp2_with fail
    go_roundg (gk - 1)
    case measure => have := HG.out; omega
    case rel => exact ⟨5, 5, rfl, rfl, by have := HG.out; omega, rfl⟩
  ·obtain rfl : z = 5 := by omega
   clear hz
   have hix := pri_ix5 wr
   rcases Nat.eq_zero_or_pos gk with h0 | h0
   ·obtain rfl : i0 = 5 := by omega
    have hr : N % 13 = 0 := HD.out
    have hx1 : ((N : Nat) : Int).tmod 13 = 0 := by rw [Int.tmod_eq_emod_of_nonneg (by omega)]; omega
    have hx2 : ((N : Nat) : Int) % 13 = 0 := by omega
    clear hg hr h0
    go_wp2_with fail
    exact bodyPost_ret (v := .bool (((N : Nat) : Int) == 13)) (by simp [results, Tryz.results86, go_sem]) rfl ⟨_, rfl, E.trans E2, rfl⟩
   ·have hr : N % 13 ≠ 0 := HLT.out 5 (by omega)
    obtain ⟨r, hr2⟩ : ∃ r, N % 13 = r := ⟨_, rfl⟩
    have hrb : r < 13 := by rw [← hr2]; exact Nat.mod_lt _ (by decide)
    have hx1 : ((N : Nat) : Int).tmod 13 = ((r : Nat) : Int) := by rw [Int.tmod_eq_emod_of_nonneg (by omega)]; omega
    have hx2 : ((N : Nat) : Int) % 13 = ((r : Nat) : Int) := by omega
    have hx3 : (((r : Nat) : Int) == 0) = false := by rw [beq_eq_false_iff_ne]; omega
    have hx4 : IntKind.u64.wrap ((r : Nat) : Int) = ((r : Nat) : Int) := by simp only [IntKind.wrap_u64]; omega
    have HG := hid (And.intro hg h0)
    clear hg hr hr2 hrb h0
    go_wp2_with fail
    go_roundg (gk - 1)
    case measure => have := HG.out; omega
    case rel => exact ⟨6, 6, rfl, rfl, by have := HG.out; omega, rfl⟩
  ·obtain rfl : z = 6 := by omega
   clear hz
   have hix := pri_ix6 wr
   rcases Nat.eq_zero_or_pos gk with h0 | h0
   ·obtain rfl : i0 = 6 := by omega
    have hr : N % 17 = 0 := HD.out
    have hx1 : ((N : Nat) : Int).tmod 17 = 0 := by rw [Int.tmod_eq_emod_of_nonneg (by omega)]; omega
    have hx2 : ((N : Nat) : Int) % 17 = 0 := by omega
    clear hg hr h0
    go_wp2_with fail
    exact bodyPost_ret (v := .bool (((N : Nat) : Int) == 17)) (by simp [results, Tryz.results86, go_sem]) rfl ⟨_, rfl, E.trans E2, rfl⟩
   ·have hr : N % 17 ≠ 0 := HLT.out 6 (by omega)
    obtain ⟨r, hr2⟩ : ∃ r, N % 17 = r := ⟨_, rfl⟩
    have hrb : r < 17 := by rw [← hr2]; exact Nat.mod_lt _ (by decide)
    have hx1 : ((N : Nat) : Int).tmod 17 = ((r : Nat) : Int) := by rw [Int.tmod_eq_emod_of_nonneg (by omega)]; omega
    have hx2 : ((N : Nat) : Int) % 17 = ((r : Nat) : Int) := by omega
    have hx3 : (((r : Nat) : Int) == 0) = false := by rw [beq_eq_false_iff_ne]; omega
    have hx4 : IntKind.u64.wrap ((r : Nat) : Int) = ((r : Nat) : Int) := by simp only [IntKind.wrap_u64]; omega
    have HG := hid (And.intro hg h0)
    clear hg hr hr2 hrb h0
    go_wp2_with fail
    go_roundg (gk - 1)
    case measure => have := HG.out; omega
    case rel => exact ⟨7, 7, rfl, rfl, by have := HG.out; omega, rfl⟩
  ·obtain rfl : z = 7 := by omega
   clear hz
   have hix := pri_ix7 wr
   rcases Nat.eq_zero_or_pos gk with h0 | h0
   ·obtain rfl : i0 = 7 := by omega
    have hr : N % 19 = 0 := HD.out
    have hx1 : ((N : Nat) : Int).tmod 19 = 0 := by rw [Int.tmod_eq_emod_of_nonneg (by omega)]; omega
    have hx2 : ((N : Nat) : Int) % 19 = 0 := by omega
    clear hg hr h0
    go_wp2_with fail
    exact bodyPost_ret (v := .bool (((N : Nat) : Int) == 19)) (by simp [results, Tryz.results86, go_sem]) rfl ⟨_, rfl, E.trans E2, rfl⟩
   ·have hr : N % 19 ≠ 0 := HLT.out 7 (by omega)
    obtain ⟨r, hr2⟩ : ∃ r, N % 19 = r := ⟨_, rfl⟩
    have hrb : r < 19 := by rw [← hr2]; exact Nat.mod_lt _ (by decide)
    have hx1 : ((N : Nat) : Int).tmod 19 = ((r : Nat) : Int) := by rw [Int.tmod_eq_emod_of_nonneg (by omega)]; omega
    have hx2 : ((N : Nat) : Int) % 19 = ((r : Nat) : Int) := by omega
    have hx3 : (((r : Nat) : Int) == 0) = false := by rw [beq_eq_false_iff_ne]; omega
    have hx4 : IntKind.u64.wrap ((r : Nat) : Int) = ((r : Nat) : Int) := by simp only [IntKind.wrap_u64]; omega
    have HG := hid (And.intro hg h0)
    clear hg hr hr2 hrb h0
    go_wp2_with fail
    go_roundg (gk - 1)
    case measure => have := HG.out; omega
    case rel => exact ⟨8, 8, rfl, rfl, by have := HG.out; omega, rfl⟩
  ·obtain rfl : z = 8 := by omega
   clear hz
   have hix := pri_ix8 wr
   rcases Nat.eq_zero_or_pos gk with h0 | h0
   ·obtain rfl : i0 = 8 := by omega
    have hr : N % 23 = 0 := HD.out
    have hx1 : ((N : Nat) : Int).tmod 23 = 0 := by rw [Int.tmod_eq_emod_of_nonneg (by omega)]; omega
    have hx2 : ((N : Nat) : Int) % 23 = 0 := by omega
    clear hg hr h0
    go_wp2_with fail
    exact bodyPost_ret (v := .bool (((N : Nat) : Int) == 23)) (by simp [results, Tryz.results86, go_sem]) rfl ⟨_, rfl, E.trans E2, rfl⟩
   ·have hr : N % 23 ≠ 0 := HLT.out 8 (by omega)
    obtain ⟨r, hr2⟩ : ∃ r, N % 23 = r := ⟨_, rfl⟩
    have hrb : r < 23 := by rw [← hr2]; exact Nat.mod_lt _ (by decide)
    have hx1 : ((N : Nat) : Int).tmod 23 = ((r : Nat) : Int) := by rw [Int.tmod_eq_emod_of_nonneg (by omega)]; omega
    have hx2 : ((N : Nat) : Int) % 23 = ((r : Nat) : Int) := by omega
    have hx3 : (((r : Nat) : Int) == 0) = false := by rw [beq_eq_false_iff_ne]; omega
    have hx4 : IntKind.u64.wrap ((r : Nat) : Int) = ((r : Nat) : Int) := by simp only [IntKind.wrap_u64]; omega
    have HG := hid (And.intro hg h0)
    clear hg hr hr2 hrb h0
    go_wp2_with fail
    go_roundg (gk - 1)
    case measure => have := HG.out; omega
    case rel => exact ⟨9, 9, rfl, rfl, by have := HG.out; omega, rfl⟩
  ·obtain rfl : z = 9 := by omega
   clear hz
   have hix := pri_ix9 wr
   rcases Nat.eq_zero_or_pos gk with h0 | h0
   ·obtain rfl : i0 = 9 := by omega
    have hr : N % 29 = 0 := HD.out
    have hx1 : ((N : Nat) : Int).tmod 29 = 0 := by rw [Int.tmod_eq_emod_of_nonneg (by omega)]; omega
    have hx2 : ((N : Nat) : Int) % 29 = 0 := by omega
    clear hg hr h0
    go_wp2_with fail
    exact bodyPost_ret (v := .bool (((N : Nat) : Int) == 29)) (by simp [results, Tryz.results86, go_sem]) rfl ⟨_, rfl, E.trans E2, rfl⟩
   ·have hr : N % 29 ≠ 0 := HLT.out 9 (by omega)
    obtain ⟨r, hr2⟩ : ∃ r, N % 29 = r := ⟨_, rfl⟩
    have hrb : r < 29 := by rw [← hr2]; exact Nat.mod_lt _ (by decide)
    have hx1 : ((N : Nat) : Int).tmod 29 = ((r : Nat) : Int) := by rw [Int.tmod_eq_emod_of_nonneg (by omega)]; omega
    have hx2 : ((N : Nat) : Int) % 29 = ((r : Nat) : Int) := by omega
    have hx3 : (((r : Nat) : Int) == 0) = false := by rw [beq_eq_false_iff_ne]; omega
    have hx4 : IntKind.u64.wrap ((r : Nat) : Int) = ((r : Nat) : Int) := by simp only [IntKind.wrap_u64]; omega
    have HG := hid (And.intro hg h0)
    clear hg hr hr2 hrb h0
    go_wp2_with fail
    go_roundg (gk - 1)
    case measure => have := HG.out; omega
    case rel => exact ⟨10, 10, rfl, rfl, by have := HG.out; omega, rfl⟩
  ·obtain rfl : z = 10 := by omega
   clear hz
   have hix := pri_ix10 wr
   rcases Nat.eq_zero_or_pos gk with h0 | h0
   ·obtain rfl : i0 = 10 := by omega
    have hr : N % 31 = 0 := HD.out
    have hx1 : ((N : Nat) : Int).tmod 31 = 0 := by rw [Int.tmod_eq_emod_of_nonneg (by omega)]; omega
    have hx2 : ((N : Nat) : Int) % 31 = 0 := by omega
    clear hg hr h0
    go_wp2_with fail
    exact bodyPost_ret (v := .bool (((N : Nat) : Int) == 31)) (by simp [results, Tryz.results86, go_sem]) rfl ⟨_, rfl, E.trans E2, rfl⟩
   ·have hr : N % 31 ≠ 0 := HLT.out 10 (by omega)
    obtain ⟨r, hr2⟩ : ∃ r, N % 31 = r := ⟨_, rfl⟩
    have hrb : r < 31 := by rw [← hr2]; exact Nat.mod_lt _ (by decide)
    have hx1 : ((N : Nat) : Int).tmod 31 = ((r : Nat) : Int) := by rw [Int.tmod_eq_emod_of_nonneg (by omega)]; omega
    have hx2 : ((N : Nat) : Int) % 31 = ((r : Nat) : Int) := by omega
    have hx3 : (((r : Nat) : Int) == 0) = false := by rw [beq_eq_false_iff_ne]; omega
    have hx4 : IntKind.u64.wrap ((r : Nat) : Int) = ((r : Nat) : Int) := by simp only [IntKind.wrap_u64]; omega
    have HG := hid (And.intro hg h0)
    clear hg hr hr2 hrb h0
    go_wp2_with fail
    go_roundg (gk - 1)
    case measure => have := HG.out; omega
    case rel => exact ⟨11, 11, rfl, rfl, by have := HG.out; omega, rfl⟩
  ·obtain rfl : z = 11 := by omega
   clear hz
   have hix := pri_ix11 wr
   rcases Nat.eq_zero_or_pos gk with h0 | h0
   ·obtain rfl : i0 = 11 := by omega
    have hr : N % 37 = 0 := HD.out
    have hx1 : ((N : Nat) : Int).tmod 37 = 0 := by rw [Int.tmod_eq_emod_of_nonneg (by omega)]; omega
    have hx2 : ((N : Nat) : Int) % 37 = 0 := by omega
    clear hg hr h0
    go_wp2_with fail
    exact bodyPost_ret (v := .bool (((N : Nat) : Int) == 37)) (by simp [results, Tryz.results86, go_sem]) rfl ⟨_, rfl, E.trans E2, rfl⟩
   ·have hr : N % 37 ≠ 0 := HLT.out 11 (by omega)
    obtain ⟨r, hr2⟩ : ∃ r, N % 37 = r := ⟨_, rfl⟩
    have hrb : r < 37 := by rw [← hr2]; exact Nat.mod_lt _ (by decide)
    have hx1 : ((N : Nat) : Int).tmod 37 = ((r : Nat) : Int) := by rw [Int.tmod_eq_emod_of_nonneg (by omega)]; omega
    have hx2 : ((N : Nat) : Int) % 37 = ((r : Nat) : Int) := by omega
    have hx3 : (((r : Nat) : Int) == 0) = false := by rw [beq_eq_false_iff_ne]; omega
    have hx4 : IntKind.u64.wrap ((r : Nat) : Int) = ((r : Nat) : Int) := by simp only [IntKind.wrap_u64]; omega
    have HG := hid (And.intro hg h0)
    clear hg hr hr2 hrb h0
    go_wp2_with fail
    go_roundg (gk - 1)
    case measure => have := HG.out; omega
    case rel => exact ⟨12, 12, rfl, rfl, by have := HG.out; omega, rfl⟩
  ·obtain rfl : z = 12 := by omega
   clear hz
   have hix := pri_ix12 wr
   rcases Nat.eq_zero_or_pos gk with h0 | h0
   ·obtain rfl : i0 = 12 := by omega
    have hr : N % 41 = 0 := HD.out
    have hx1 : ((N : Nat) : Int).tmod 41 = 0 := by rw [Int.tmod_eq_emod_of_nonneg (by omega)]; omega
    have hx2 : ((N : Nat) : Int) % 41 = 0 := by omega
    clear hg hr h0
    go_wp2_with fail
    exact bodyPost_ret (v := .bool (((N : Nat) : Int) == 41)) (by simp [results, Tryz.results86, go_sem]) rfl ⟨_, rfl, E.trans E2, rfl⟩
   ·have hr : N % 41 ≠ 0 := HLT.out 12 (by omega)
    obtain ⟨r, hr2⟩ : ∃ r, N % 41 = r := ⟨_, rfl⟩
    have hrb : r < 41 := by rw [← hr2]; exact Nat.mod_lt _ (by decide)
    have hx1 : ((N : Nat) : Int).tmod 41 = ((r : Nat) : Int) := by rw [Int.tmod_eq_emod_of_nonneg (by omega)]; omega
    have hx2 : ((N : Nat) : Int) % 41 = ((r : Nat) : Int) := by omega
    have hx3 : (((r : Nat) : Int) == 0) = false := by rw [beq_eq_false_iff_ne]; omega
    have hx4 : IntKind.u64.wrap ((r : Nat) : Int) = ((r : Nat) : Int) := by simp only [IntKind.wrap_u64]; omega
    have HG := hid (And.intro hg h0)
    clear hg hr hr2 hrb h0
    go_wp2_with fail
    go_roundg (gk - 1)
    case measure => have := HG.out; omega
    case rel => exact ⟨13, 13, rfl, rfl, by have := HG.out; omega, rfl⟩

set_option maxRecDepth 100000 in
set_option maxHeartbeats 8000000 in
theorem Is_b {x : Value} {w : World} (i0 : Nat) (hi0 : i0 < 13) (hx : IsI 2 ((prBases.getD i0 1 : Nat) : Int) x w) : Calls Tryz.prog 40 #[x] w (Ret w (IsT2 (IsV (.bool true)) (IsV (.int .i64 0)))) := by
 have hfacts : ∀ i, i < 13 → 1 < prBases.getD i 1 ∧ prBases.getD i 1 < 42 ∧ (∀ j, j < i → prBases.getD i 1 % prBases.getD j 1 ≠ 0) := by decide
 obtain ⟨f1, f2, f3⟩ := hfacts i0 hi0
 have hP := isPrime_d
 obtain ⟨N, hN⟩ : ∃ N, prBases.getD i0 1 = N := ⟨_, rfl⟩
 have hP : ∀ w, Calls Tryz.prog 86 #[.int .u64 ((N : Nat) : Int)] w (Ret w (IsV (.bool true))) := fun w => by
  have := isPrime_d w N i0 (by omega) hi0 (by rw [hN, Nat.mod_self]) (fun j hj => by rw [← hN]; exact f3 j hj)
  rw [hN, beq_self_eq_true] at this
  exact this
 rw [hN] at hx f1 f2
 clear f3 hN hfacts
 obtain ⟨s1, a1, n1, c1, rfl, h1⟩ := hx
 have h1 : IsI 2 ((N : Nat) : Int) (.agg #[.bool s1, .slice a1 n1 c1]) w := ⟨_, _, _, _, rfl, h1⟩
 have hs : s1 = false := h1.pos' (by omega)
 subst hs
 obtain ⟨W, hW, E, C1, C2⟩ : ∃ W, W = w.alloc (.cells #[.bool false, .slice a1 n1 c1] 33) ∧ Ext w W ∧ World.cell? W ⟨w.heap.size, 0, none⟩ = some (.bool false) ∧ World.cell? W ⟨w.heap.size, 1, none⟩ = some (.slice a1 n1 c1) :=
  ⟨_, rfl, (Ext.refl _).alloc _, by simp, by simp⟩
 have hcon := word_f (IsI.stb _ _ _ _ _ E h1) (by omega)
 rw [decide_eq_true (show (0 : Int) < ((N : Nat) : Int) by omega), Int.natAbs_natCast] at hcon
 clear h1
 go_enter Tryz.func40, Tryz.ntmps40
 go_upto_region 1 with (fail)
 rw [← hW]
 clear hW
 go_upto_region 2 with (go_at_call 85; refine Calls.mono hcon ?_; rintro e w1 ⟨_, rfl, E1, _, _, rfl, rfl, rfl⟩)
 have C1' := Ext.cell E1 C1
 go_wp2_with (go_at_call 86; refine Calls.mono (hP w1) ?_; rintro e w2 ⟨_, rfl, E2, rfl⟩)
 exact bodyPost_ret (v := .tuple #[.bool true, .int .i64 0]) (by simp [results, Tryz.results40, go_sem]) rfl ⟨_, rfl, (E.trans E1).trans E2, _, _, rfl, rfl, rfl⟩
end Go.Proofs.YtknffgdbdadpcaaGreatDoor
namespace Go.Proofs.YtknffgdbdadpcaaGreatDoor
open Go Go.RowKit Go.Shelf

attribute [local go_sem] Oper.semAt_some

theorem VarAt.set_other {g g2 n0 : Nat} {W0 W : World} {v : Value} (h : VarAt g n0 W0 v W) (hg : n0 ≤ g2) (hne : g ≠ g2) (u : Value) : VarAt g n0 W0 v (W.setCell ⟨g2, 0, none⟩ u) :=
 ⟨⟨(World.cell?_setCell_other (w := W) _ _ _ (by intro h; injection h with h1; exact hne h1.symm)).trans h.1.1, by rw [World.frozen?_setCell]; exact h.1.2⟩, h.2.setCell hg u⟩

theorem no_mem_lk (g : Nat → Nat → Int) (p : Nat) : ∀ l : List (Nat × Nat), (∀ y ∈ l, y.1 ≠ p) → lkP g p l = 1
 | [], _ => rfl
 | x :: l, h => by
  unfold lkP
  rw [if_neg (h x (List.mem_cons_self ..))]
  exact no_mem_lk g p l fun y hy => h y (List.mem_cons_of_mem _ hy)
/-- Where Local's loop stands. -/
def LocI (p g n0 : Nat) (W0 : World) (pre : List (Nat × Nat)) (W : World) : Prop := (∀ y ∈ pre, y.1 ≠ p) ∧ VarAt g n0 W0 (.int .i64 0) W ∧ VarAt (g + 1) n0 W0 (.int .i64 0) W
/-- How Local's loop is left. -/
def LocX (g n0 : Nat) (W0 : World) (res : Int) (q : Code) (_ : List (Nat × Nat)) (W : World) : Prop := q = .ret ∧ VarAt g n0 W0 (.int .i64 res) W ∧ VarAt (g + 1) n0 W0 (.int .i64 0) W

set_option maxRecDepth 100000 in
set_option maxHeartbeats 4000000 in
theorem Local_e {k1 k2 n L m p : Nat} {z : Int} {x y : Value} {w : World} (HZ : Hid (z = -((n : Nat) : Int))) (hx : IsI k1 z x w) (hy : IsI k2 ((m : Nat) : Int) y w) (hk : k1 ≤ 16777216 ∧ k2 ≤ 16777216) (hs : Sg w) (hn : 1 ≤ n ∧ n ≤ 4194304 ∧ (n % 4 = 0 ∨ n % 4 = 3)) (hL : L * L ≤ n ∧ n < (L + 1) * (L + 1))
  (hu : unsE (cdB n L) ((m : Nat) : Int) = 0) (hm : 0 < m ∧ m ≤ 1048576) (hp : Pr p) (hp2 : p < 1048576) (hIs : ∀ x w', Ext w w' → IsI 2 ((p : Nat) : Int) x w' → Calls Tryz.prog 40 #[x] w' (Ret w' (IsT2 (IsV (.bool true)) (IsV (.int .i64 0))))) :
  Calls Tryz.prog 10 #[x, y, .int .i64 ((p : Nat) : Int)] w (Ret w (IsT2 (IsV (.int .i64 (locg (kr z) p (vl p m)))) (IsV (.int .i64 0)))) := by
 have HN := hid hn
 have HL := hid hL
 have HU := hid hu
 have HK := hid hk
 have HM := hid hm
 have HS := hid hs
 have HP := hid (And.intro hp hp2)
 have HZB := hid (show -9223372036854775808 ≤ z ∧ z ≤ 9223372036854775807 by have := HZ.out; omega)
 have HPB := hid (show (-9223372036854775808 ≤ ((p : Nat) : Int) ∧ ((p : Nat) : Int) ≤ 9223372036854775807) ∧ decide ((1048576 : Int) ≤ ((p : Nat) : Int)) = false ∧ 0 < p from ⟨by omega, by simp; omega, by have := hp.1; omega⟩)
 clear hn hL hu hk hs hm hp hp2
 obtain ⟨s1, a1, n1, c1, rfl, h1⟩ := hx
 obtain ⟨s2, a2, n2, c2, rfl, h2⟩ := hy
 have h1 : IsI k1 z (.agg #[.bool s1, .slice a1 n1 c1]) w := ⟨_, _, _, _, rfl, h1⟩
 have h2 : IsI k2 ((m : Nat) : Int) (.agg #[.bool s2, .slice a2 n2 c2]) w := ⟨_, _, _, _, rfl, h2⟩
 obtain ⟨W, hW, S⟩ : ∃ W, W = (w.alloc (.cells #[.bool s1, .slice a1 n1 c1] 33)).alloc (.cells #[.bool s2, .slice a2 n2 c2] 33) ∧ Sto w W [((w.heap.size + 1, 0), IsI k2 ((m : Nat) : Int)), ((w.heap.size, 0), IsI k1 z)] :=
  ⟨_, rfl, ((Sto.start w).new1 (w.heap.size) (by simp) s1 a1 n1 c1 33 _ (IsI.gstb _ _) h1).new1 (w.heap.size + 1) (by simp) s2 a2 n2 c2 33 _ (IsI.gstb _ _) (h2.ext ((Ext.refl _).alloc _))⟩
 clear h1 h2
 have hWs : W.heap.size = w.heap.size + 2 := by rw [hW]; simp
 refine calls_of_wp_marks Tryz.func10 rfl ?_
 simp only [Tryz.ntmps10, List.size_toArray, List.length_cons, List.length_nil, Nat.reduceAdd, Nat.reduceSub, Array.replicate_succ, Array.replicate_zero, List.push_toArray, List.append_toArray, List.nil_append, List.cons_append]
 go_upto_region 1 with (fail)
 rw [← hW]
 clear hW
 obtain ⟨Wp, hWp⟩ : ∃ Wp, W.alloc (.cells #[.int .i64 ((p : Nat) : Int)] 3) = Wp := ⟨_, rfl⟩
 have S1 : Sto w Wp _ := S.mono (by rw [← hWp]; exact (Ext.refl _).alloc _)
 have C5 : World.cell? Wp ⟨w.heap.size + 1 + 1, 0, none⟩ = some (.int .i64 ((p : Nat) : Int)) := by
  have := Boxed.new W 3 (.int .i64 ((p : Nat) : Int))
  rw [hWs, hWp] at this
  exact this.cell
 have hWps : Wp.heap.size = w.heap.size + 1 + 1 + 1 := by rw [← hWp]; simp; omega
 rw [hWp]
 clear hWp hWs S
 obtain ⟨W2, hW2⟩ : ∃ W2, (Wp.alloc (.cells #[.int .i64 0] 3)).alloc (.cells #[.int .i64 0] 37) = W2 := ⟨_, rfl⟩
 have V2 : VarAt (w.heap.size + 1 + 1 + 1) (w.heap.size + 1 + 1 + 1) Wp (.int .i64 0) W2 := by
  have bV := Boxed.new Wp 3 (.int .i64 0)
  rw [hWps] at bV
  rw [← hW2]
  refine ⟨⟨(bV.alloc _).cell, (bV.alloc _).frozen⟩, ?_⟩
  rw [← hWps]
  exact ((Ext.refl _).alloc _).alloc _
 have U2 : VarAt (w.heap.size + 1 + 1 + 1 + 1) (w.heap.size + 1 + 1 + 1) Wp (.int .i64 0) W2 := by
  have bV := Boxed.new (Wp.alloc (.cells #[.int .i64 0] 3)) 37 (.int .i64 0)
  rw [World.size_alloc, hWps] at bV
  rw [← hW2]
  refine ⟨⟨bV.cell, bV.frozen⟩, ?_⟩
  rw [← hWps]
  exact ((Ext.refl _).alloc _).alloc _
 rw [hW2]
 clear hW2
 obtain ⟨g, hg⟩ : ∃ g, w.heap.size + 1 + 1 + 1 = g := ⟨_, rfl⟩
 rw [hg] at V2 U2 hWps
 have E2 : Ext Wp W2 := by have := V2.2; rw [← hWps] at this; exact this
 have S2 := S1.mono E2
 obtain ⟨s1, a1, n1, c1, B1, h1⟩ := S2.at 1 _ _ _ rfl
 obtain ⟨s2, a2, n2, c2, B2, h2⟩ := S2.at 0 _ _ _ rfl
 have L1a : World.cell? W2 ⟨w.heap.size, 0, none⟩ = some (.bool s1) := B1.c0
 have L1b : World.cell? W2 ⟨w.heap.size, 1, none⟩ = some (.slice a1 n1 c1) := B1.c1
 have L2a : World.cell? W2 ⟨w.heap.size + 1, 0, none⟩ = some (.bool s2) := B2.c0
 have L2b : World.cell? W2 ⟨w.heap.size + 1, 1, none⟩ = some (.slice a2 n2 c2) := B2.c1
 have L5 := Ext.cell E2 C5
 clear B1 B2
 have hcon := unsuitable_f (x := .agg #[.bool s1, .slice a1 n1 c1]) (by rw [← HZ.out]; exact h1) h2 HK.out.1 HK.out.2 HN.out HL.out
 rw [HU.out] at hcon
 go_upto_region 4 with (go_at_call 39; refine Calls.mono hcon ?_; rintro e w3 ⟨_, rfl, E3, rfl⟩)
 have L5a := Ext.cell E3 L5
 have hOf := Of_f w3 ((p : Nat) : Int) HPB.out.1.1 HPB.out.1.2
 go_upto_region 5 with (first | (go_at_call 41; refine Calls.mono hOf ?_; rintro e w4 ⟨xp, rfl, E4, hxp⟩) | (go_at_call 40; refine Calls.mono (hIs _ _ ((S2.ext.trans E3).trans E4) hxp) ?_; rintro e w5 ⟨_, rfl, E5, _, _, rfl, rfl, rfl⟩))
 have L5b := Ext.cell E5 (Ext.cell E4 L5a)
 have hdec := HPB.out.2.1
 go_upto_region 7 with (fail)
 have E35 : Ext W2 w5 := (E3.trans E4).trans E5
 have V5 := V2.ext E35 (Nat.le_trans (by omega) E2.size)
 have U5 := U2.ext E35 (Nat.le_trans (by omega) E2.size)
 have L2a' := Ext.cell E35 L2a
 have L2b' := Ext.cell E35 L2b
 have h2' := IsI.stb _ _ _ _ _ E35 h2
 have HMB := hid (show -9223372036854775808 ≤ ((m : Nat) : Int) ∧ ((m : Nat) : Int) ≤ 9223372036854775807 by have := HM.out; omega)
 clear hdec hOf hcon L5a L5b hxp E3 E4 E5
 go_wp2_with (first | (go_at_call 42; refine Calls.mono (Low_t h2' HMB.out.1 HMB.out.2) ?_; rintro e w6 ⟨_, rfl, E6, _, _, rfl, rfl, rfl⟩) | (go_at_call 43; refine Calls.mono (powers_c _ _) ?_; rintro e w7 ⟨rfl, rfl⟩))
 have hg5 : g + 1 < w5.heap.size := World.block_lt_of_cell? _ _ U5.1.1
 have hs5 : Wp.heap.size ≤ w5.heap.size := Nat.le_trans E2.size E35.size
 obtain ⟨W7, hW7⟩ : ∃ W7, w6.alloc (.cells #[.int .i64 ((m : Nat) : Int)] 2) = W7 := ⟨_, rfl⟩
 have E7 : Ext w5 W7 := by rw [← hW7]; exact E6.alloc _
 have V7 := V5.ext E7 (by omega)
 have U7 := U5.ext E7 (by omega)
 have hX := powers1_in Fence.wide 8 trivial rfl (by decide) (w6.alloc (.cells #[.int .i64 ((m : Nat) : Int)] 2)) w6.heap.size m HM.out.1 (by have := HM.out.2; omega) (by simp) (by simp)
 have hs7 : W7.heap.size = w6.heap.size + 1 := by rw [← hW7]; simp
 have hs6 : w5.heap.size ≤ w6.heap.size := E6.size
 rw [hW7] at hX
 rw [hW7]
 have E27 : Ext Wp W7 := E2.trans (E35.trans E7)
 have VV : VarAt g g W7 (.int .i64 0) W7 := ⟨V7.1, Below.refl _ _⟩
 have UU : VarAt (g + 1) g W7 (.int .i64 0) W7 := ⟨U7.1, Below.refl _ _⟩
 clear hW7 V2 U2 V5 U5 V7 U7 L1a L1b L2a L2b L5 h1 h2 L2a' L2b' h2' S2 E6 E7 E35
 generalize w6.heap.size = c at *
 have HG := hid (show w.heap.size + 1 + 1 + 1 = g ∧ g + 1 < c ∧ W7.heap.size = c + 1 ∧ Wp.heap.size = g by omega)
 clear hg hg5 hs5 hs7 hs6 hWps
 refine wpIn_wide.1 (wpIn_rangeFunc_box (n := 9) rfl (by decide) (gf := 89) (lb := #[.pointer (some ⟨c, 0, none⟩)]) rfl trivial (en Tryz.func89) (c := c) (by have := HG.out; omega)
  hX (fun _ => rfl) (fun pre W' => LocI p g g W7 pre W') (fun q pre W' => LocX g g W7 (locg (kr z) p (vl p m)) q pre W')
  ?_ ?_ ?_ ?_ ⟨by simp, VV, UU⟩ ?_ ?_ ?_ ?_ ?_)
 ·exact fun pre A B row h hg hr => ⟨h.1, varAt_own (fun _ : List (Nat × Nat) => .int .i64 0) (by have := HG.out; omega) (by have := HG.out; omega) pre A B row h.2.1 hg hr, varAt_own (fun _ : List (Nat × Nat) => .int .i64 0) (by have := HG.out; omega) (by have := HG.out; omega) pre A B row h.2.2 hg hr⟩
 ·exact fun q pre A B row h hg hr => ⟨h.1, varAt_own (fun _ : List (Nat × Nat) => _) (by have := HG.out; omega) (by have := HG.out; omega) pre A B row h.2.1 hg hr, varAt_own (fun _ : List (Nat × Nat) => _) (by have := HG.out; omega) (by have := HG.out; omega) pre A B row h.2.2 hg hr⟩
 ·exact fun pre A B h hg => ⟨h.1, varAt_lone (fun _ : List (Nat × Nat) => _) (by have := HG.out; omega) (by have := HG.out; omega) (by have := HG.out; omega) pre A B h.2.1 hg, varAt_lone (fun _ : List (Nat × Nat) => _) (by have := HG.out; omega) (by have := HG.out; omega) (by have := HG.out; omega) pre A B h.2.2 hg⟩
 ·exact fun q pre A B h hg => ⟨h.1, varAt_lone (fun _ : List (Nat × Nat) => _) (by have := HG.out; omega) (by have := HG.out; omega) (by have := HG.out; omega) pre A B h.2.1 hg, varAt_lone (fun _ : List (Nat × Nat) => _) (by have := HG.out; omega) (by have := HG.out; omega) (by have := HG.out; omega) pre A B h.2.2 hg⟩
 rotate_left
 ·intro l x W' K hK
  gi_wp2
  exact hK
 ·rintro l pre ⟨q, k⟩ W' hI hpre
  obtain ⟨hq1, hq2, hq3, hq4, hq5⟩ := pre_mem HM.out.1 hpre
  dsimp only at hq1 hq2 hq3 hq4 hq5
  have E17 : Below g Wp W7 := by have h := E27; rw [Ext, HG.out.2.2.2] at h; exact h
  have EW : Ext Wp W' := by rw [Ext, HG.out.2.2.2]; exact Below.trans E17 hI.2.1.2
  have S' := S1.mono EW
  obtain ⟨s1, a1, n1, c1, B1, h1⟩ := S'.at 1 _ _ _ rfl
  have L1a : World.cell? W' ⟨w.heap.size, 0, none⟩ = some (.bool s1) := B1.c0
  have L1b : World.cell? W' ⟨w.heap.size, 1, none⟩ = some (.slice a1 n1 c1) := B1.c1
  have L5 := Ext.cell EW C5
  have hcw : c < W'.heap.size := by have h1 := hI.2.1.2.size; have := HG.out; omega
  have hcon := dlocal_f (p := q) (k := k) h1 (by have := HK.out.1; omega) (HS.out.ext (S1.ext.trans EW)) (by have := hq1.1; have := HM.out; omega) (by have := HM.out; omega)
  by_cases hqp : q = p
  ·subst hqp
   rw [hq2] at hcon
   have hvk := hid hq2
   clear hq1 hq2 hq3 hq4 hq5 B1 E17
   have hV := hI.2.1
   have hU := hI.2.2
   have hpn := hI.1
   obtain ⟨res, hres⟩ : ∃ r, locg (kr z) q (vl q m) = r := ⟨_, rfl⟩
   rw [hres] at hcon ⊢
   rw [← hvk.out] at hcon
   have hgW : g ≤ W'.heap.size := by have h1 := hI.2.1.2.size; have := HG.out; omega
   gi_wp2_with (refine ⟨trivial, ?_⟩; gi_at_call 44; go_must (refine (in_round l hcon).mono ?_; rintro e w8 ⟨_, rfl, E8, rfl⟩; have Lg := (hV.ext E8 hgW).1.1; have Fg := (hV.ext E8 hgW).1.2; have Lg2 := (hU.ext E8 hgW).1.1; have Fg2 := (hU.ext E8 hgW).1.2))
   have V8 := ((hV.ext E8 hgW).set (Nat.le_refl _) (.int .i64 res)).set_other (g2 := g + 1) (by omega) (by omega) (.int .i64 0)
   have U8 := ((hU.ext E8 hgW).set_other (g2 := g) (Nat.le_refl _) (by omega) (.int .i64 res)).set (by omega) (.int .i64 0)
   exact boxPost_ret ((((ext_keeps E8).trans (KeepsOthers.setCell _ _ _)).trans (KeepsOthers.setCell _ _ _)).from _) ⟨rfl, V8, U8⟩
  ·have hx9 : (((q : Nat) : Int) == ((p : Nat) : Int)) = false := by rw [beq_eq_false_iff_ne]; omega
   clear hq1 hq2 hq3 hq4 hq5 B1 E17 hcon
   gi_wp2
   refine boxPost_norm ((KeepsOthers.refl _).from _) rfl ⟨?_, hI.2⟩
   intro y hy
   rcases List.mem_append.1 hy with h | h
   ·exact hI.1 y h
   ·rw [List.mem_singleton] at h; subst h; exact hqp
 ·rintro D xs W' hD rfl hI hK
  have E17 : Below g Wp W7 := by have h := E27; rw [Ext, HG.out.2.2.2] at h; exact h
  have EW : Ext Wp W' := by rw [Ext, HG.out.2.2.2]; exact Below.trans E17 hI.2.1.2
  have hlk := lkP_pw (g := locg (kr z)) (locg_0 (kr z)) HP.out.1 HM.out.1
  rw [no_mem_lk _ _ _ hI.1] at hlk
  have HLK := hid hlk
  clear hlk
  have V8 := (hI.2.1.set (Nat.le_refl _) (.int .i64 1)).set_other (g2 := g + 1) (by omega) (by omega) (.int .i64 0)
  have U8 := (hI.2.2.set_other (g2 := g) (Nat.le_refl _) (by omega) (.int .i64 1)).set (by omega) (.int .i64 0)
  have Lg := hI.2.1.1.1
  have Fg := hI.2.1.1.2
  have Lg2 := hI.2.2.1.1
  have Fg2 := hI.2.2.1.2
  go_wp2_with fail
  have hK2 : ((W'.setCell ⟨g, 0, none⟩ (.int .i64 1)).setCell ⟨g + 1, 0, none⟩ (.int .i64 0)).heap[D]? = some (.deferred (some [])) := (setCell_heap _ _ _ _ (by have := HG.out; omega)).trans ((setCell_heap _ _ _ _ (by have := HG.out; omega)).trans hK)
  generalize (W'.setCell ⟨g, 0, none⟩ (.int .i64 1)).setCell ⟨g + 1, 0, none⟩ (.int .i64 0) = W9 at *
  have hfin : Ext w (W9.putObj D (.deferred none)) := by
   have h := S1.ext.trans (show Ext Wp W9 by rw [Ext, HG.out.2.2.2]; exact Below.trans E17 V8.2)
   exact Below.trans h (belowK_b (w := w) (Nat.le_refl _) W9 D _ _ (by have := HG.out; omega) hK2 rfl rfl)
  have c1 := cell_kept V8.1.1 (grownBy_putObj' W9 D (.deferred none)) (fun r e => by cases e; exact ⟨_, hK2, rfl⟩)
  have c2 := cell_kept U8.1.1 (grownBy_putObj' W9 D (.deferred none)) (fun r e => by cases e; exact ⟨_, hK2, rfl⟩)
  exact marks_ret1 hK2 (v := .tuple #[.int .i64 1, .int .i64 0]) (by simp [results, Tryz.results10, go_sem, c1, c2]) ⟨_, rfl, hfin, _, _, rfl, (by rw [← HLK.out]; rfl), rfl⟩
 ·rintro D q pre W' hD hpre ⟨rfl, V8, U8⟩ hK
  have E17 : Below g Wp W7 := by have h := E27; rw [Ext, HG.out.2.2.2] at h; exact h
  refine wpIn_ret ?_
  have hfin : Ext w (W'.putObj D (.deferred none)) := by
   have h := S1.ext.trans (show Ext Wp W' by rw [Ext, HG.out.2.2.2]; exact Below.trans E17 V8.2)
   exact Below.trans h (belowK_b (w := w) (Nat.le_refl _) W' D _ _ (by have := HG.out; omega) hK rfl rfl)
  have c1 := cell_kept V8.1.1 (grownBy_putObj' W' D (.deferred none)) (fun r e => by cases e; exact ⟨_, hK, rfl⟩)
  have c2 := cell_kept U8.1.1 (grownBy_putObj' W' D (.deferred none)) (fun r e => by cases e; exact ⟨_, hK, rfl⟩)
  exact marks_ret1 hK (v := .tuple #[.int .i64 (locg (kr z) p (vl p m)), .int .i64 0]) (by simp [results, Tryz.results10, go_sem, c1, c2]) ⟨_, rfl, hfin, _, _, rfl, rfl, rfl⟩
theorem Local_k {k1 k2 n L m p : Nat} {z : Int} {x y : Value} {w : World} (HZ : Hid (z = -((n : Nat) : Int))) (hx : IsI k1 z x w) (hy : IsI k2 ((m : Nat) : Int) y w) (hk : k1 ≤ 16777216 ∧ k2 ≤ 16777216) (hs : Sg w) (hn : 1 ≤ n ∧ n ≤ 4194304 ∧ (n % 4 = 0 ∨ n % 4 = 3)) (hL : L * L ≤ n ∧ n < (L + 1) * (L + 1))
  (hu : unsE (cdB n L) ((m : Nat) : Int) = 0) (hm : 0 < m ∧ m ≤ 1048576) (hp : Pr p) (hp2 : p < 1048576) (hIs : ∀ x w, IsI 2 ((p : Nat) : Int) x w → Calls Tryz.prog 40 #[x] w (Ret w (IsT2 (IsV (.bool true)) (IsV (.int .i64 0))))) :
  Calls Tryz.prog 10 #[x, y, .int .i64 ((p : Nat) : Int)] w (Ret w (IsT2 (IsV (.int .i64 (locg (kr z) p (vl p m)))) (IsV (.int .i64 0)))) := Local_e HZ hx hy hk hs hn hL hu hm hp hp2 fun x w' _ h => hIs x w' h
end Go.Proofs.YtknffgdbdadpcaaGreatDoor
namespace Go.Proofs.YtknffgdbdadpcaaGreatDoor
open Go Go.RowKit

/-- What a character's closure holds: a prime, or two residues modulo 8. -/
def ChFn (W : World) (c : Int) (fn : Fn) (a b : Array Value) : Prop :=
 ∃ g, a = #[] ∧ b = #[.pointer (some ⟨g, 0, none⟩)] ∧ ((fn = .func 167 ∧ (0 < c ∧ c % 2 = 1) ∧ W.heap[g]? = some (.cells #[.int .i64 c] 2)) ∨ (fn = .func 168 ∧ ∃ (h : Nat) (r : Int), W.heap[g]? = some (.cells #[.slice (some ⟨h, 0, none⟩) 2 2] 202) ∧ W.heap[h]? = some (.cells #[.int .i64 1, .int .i64 r] 2) ∧ (c = -4 ∧ r = 5 ∨ c = 8 ∧ r = 7 ∨ c = -8 ∧ r = 3)))
theorem ChFn.keep {W W' : World} {c : Int} {fn : Fn} {a b : Array Value} (h : ChFn W c fn a b) (k : ∀ (g : Nat) (cs : Array Value) (T : TypeId), T ≠ 120 → W.heap[g]? = some (.cells cs T) → W'.heap[g]? = some (.cells cs T)) : ChFn W' c fn a b := by
 obtain ⟨g, h1, h2, ⟨h3, h4, h5⟩ | ⟨h3, h', r, h5, h6, h7⟩⟩ := h
 ·exact ⟨g, h1, h2, .inl ⟨h3, h4, k _ _ _ (by decide) h5⟩⟩
 ·exact ⟨g, h1, h2, .inr ⟨h3, h', r, k _ _ _ (by decide) h5, k _ _ _ (by decide) h6, h7⟩⟩
theorem ChFn.ext {W W' : World} {c : Int} {fn : Fn} {a b : Array Value} (h : ChFn W c fn a b) (e : Ext W W') : ChFn W' c fn a b := h.keep fun g _ _ _ hg => (e.block g (Array.getElem?_eq_some_iff.1 hg).1).trans hg
/-- Several such closures. -/
def FnsAt (W : World) (l : List (Int × Fn × Array Value × Array Value)) : Prop := ∀ x ∈ l, ChFn W x.1 x.2.1 x.2.2.1 x.2.2.2
theorem FnsAt.nil (W : World) : FnsAt W [] := fun _ h => by cases h
theorem FnsAt.ext {W W' : World} {l : List (Int × Fn × Array Value × Array Value)} (h : FnsAt W l) (e : Ext W W') : FnsAt W' l := fun x hx => (h x hx).ext e
theorem FnsAt.cons {W : World} {l : List (Int × Fn × Array Value × Array Value)} {c : Int} {fn : Fn} {a b : Array Value} (h : ChFn W c fn a b) (k : FnsAt W l) : FnsAt W ((c, fn, a, b) :: l) := fun x hx => by
 rcases List.mem_cons.1 hx with rfl | hx
 ·exact h
 ·exact k x hx
set_option maxRecDepth 100000 in
set_option maxHeartbeats 4000000 in
theorem odd_c (w : World) (p : Int) (hp : 0 < p ∧ p % 2 = 1) : Calls Tryz.prog 130 #[.int .i64 p] w (Ret w (fun v W' => v = .agg #[.int .i64 p, .func (.func 167) #[] #[.pointer (some ⟨w.heap.size, 0, none⟩)]] ∧ ChFn W' p (.func 167) #[] #[.pointer (some ⟨w.heap.size, 0, none⟩)])) := by
 have hstf : ∀ (a : Addr) (fn : Fn) (first cap : Array Value) (w : World), (store a (.func fn first cap)).run Tryz.prog w = stored Tryz.prog w a (.func fn first cap) .plain := fun a fn first cap w => run_store Tryz.prog w a _ .plain rfl
 go_enter Tryz.func130, Tryz.ntmps130
 go_wp2_with fail
 exact bodyPost_ret (v := .agg #[.int .i64 p, .func (.func 167) #[] #[.pointer (some ⟨w.heap.size, 0, none⟩)]]) (by simp [results, Tryz.results130, go_sem]) rfl ⟨_, rfl, ((Ext.refl _).alloc _).alloc _, rfl, _, rfl, rfl, .inl ⟨rfl, hp, (Below.heap_alloc _ _ _ (by simp)).trans (World.alloc_heap_new w _)⟩⟩
set_option maxRecDepth 100000 in
set_option maxHeartbeats 4000000 in
theorem special_c (w : World) (p r : Int) (h : Nat) (hr : w.heap[h]? = some (.cells #[.int .i64 1, .int .i64 r] 2)) (hpr : p = -4 ∧ r = 5 ∨ p = 8 ∧ r = 7 ∨ p = -8 ∧ r = 3) : Calls Tryz.prog 131 #[.int .i64 p, .slice (some ⟨h, 0, none⟩) 2 2] w (Ret w (fun v W' => v = .agg #[.int .i64 p, .func (.func 168) #[] #[.pointer (some ⟨w.heap.size, 0, none⟩)]] ∧ ChFn W' p (.func 168) #[] #[.pointer (some ⟨w.heap.size, 0, none⟩)])) := by
 have hstf : ∀ (a : Addr) (fn : Fn) (first cap : Array Value) (w : World), (store a (.func fn first cap)).run Tryz.prog w = stored Tryz.prog w a (.func fn first cap) .plain := fun a fn first cap w => run_store Tryz.prog w a _ .plain rfl
 go_enter Tryz.func131, Tryz.ntmps131
 go_wp2_with fail
 exact bodyPost_ret (v := .agg #[.int .i64 p, .func (.func 168) #[] #[.pointer (some ⟨w.heap.size, 0, none⟩)]]) (by simp [results, Tryz.results131, go_sem]) rfl ⟨_, rfl, ((Ext.refl _).alloc _).alloc _, rfl, _, rfl, rfl, .inr ⟨rfl, h, r, (Below.heap_alloc _ _ _ (by simp)).trans (World.alloc_heap_new w _), (((Ext.refl w).alloc _).alloc _).block h (Array.getElem?_eq_some_iff.1 hr).1 |>.trans hr, hpr⟩⟩
end Go.Proofs.YtknffgdbdadpcaaGreatDoor
namespace Go.Proofs.YtknffgdbdadpcaaGreatDoor
open Go Go.RowKit

theorem Ext.heap' {w w' : World} (e : Ext w w') {g : Nat} {o : Obj} (h : w.heap[g]? = some o) : w'.heap[g]? = some o := (e.block g (Array.getElem?_eq_some_iff.1 h).1).trans h
/-- The cells of a row that was made since 'base': n elements of k cells. -/
def Rwg (e k base : Nat) (w : World) (v : Value) (n : Nat) (xs : List Value) : Prop := w.ownsRow base e k v n xs
theorem Rwg.nil (e k base : Nat) (w : World) : Rwg e k base w (.slice none 0 0) 0 [] := ⟨by simp, .inl ⟨rfl, rfl⟩⟩
theorem Rwg.ext {e k base n : Nat} {w w' : World} {v : Value} {xs : List Value} (h : Rwg e k base w v n xs) (E : Ext w w') : Rwg e k base w' v n xs := by
 obtain ⟨h1, h2 | ⟨g, cap, cur, hv, hb, hg, hr⟩⟩ := h
 ·exact ⟨h1, .inl h2⟩
 ·exact ⟨h1, .inr ⟨g, cap, cur, hv, hb, E.heap' hg, hr⟩⟩
theorem Rwg.base {e k b b' n : Nat} {w : World} {v : Value} {xs : List Value} (h : Rwg e k b w v n xs) (hb : b' ≤ b) : Rwg e k b' w v n xs := by
 obtain ⟨h1, h2 | ⟨g, cap, cur, hv, hg, hr⟩⟩ := h
 ·exact ⟨h1, .inl h2⟩
 ·exact ⟨h1, .inr ⟨g, cap, cur, hv, Nat.le_trans hb hg, hr⟩⟩
/-- The shape of a row's slice. -/
theorem Rwg.shape {e k base n : Nat} {w : World} {v : Value} {xs : List Value} (h : Rwg e k base w v n xs) : ∃ ao cap, v = .slice ao n cap ∧ n ≤ cap ∧ cap ≤ 9223372036854775807 ∧ xs.length = n * k ∧
  (n ≠ 0 → ∃ g, ao = some ⟨g, 0, none⟩ ∧ base ≤ g ∧ g < w.heap.size ∧ ∀ j u, xs[j]? = some u → w.cell? ⟨g, j, none⟩ = some u) := by
 obtain ⟨h1, ⟨h2, h3⟩ | ⟨g, cap, cur, hv, hb, hg, hn, hc, hsz, ht⟩⟩ := h
 ·subst h3
  exact ⟨none, 0, h2, Nat.le_refl _, by decide, h1, fun h => absurd rfl h⟩
 ·refine ⟨_, cap, hv, hn, hc, h1, fun _ => ⟨g, rfl, hb, (Array.getElem?_eq_some_iff.1 hg).1, fun j u hj => ?_⟩⟩
  have hjl : j < xs.length := (List.getElem?_eq_some_iff.1 hj).1
  simp only [World.cell?]; rw [hg]
  show cur[j]? = some u
  rw [← ht, List.getElem?_take, if_pos (by omega)] at hj
  simpa using hj
theorem wpl_rwg {P : Program} {w : World} {ops : Array Oper} {rest : List Oper} {o : Oper} {a : Act} {Q : Exit → Act → World → Prop} (hgd : o.guard = none) (s x : Operand) (t : TypeId)
  (ho : o.op = .call { callee := .builtin .append, args := #[s, x], argTypes := #[t, t] }) (base e : Nat) (z : Value) (k bytes : Nat) (ht : P.underlying t = some (.slice e)) (hinfo : (P.info? e).map (fun i => (i.zero, i.size, i.bytes)) = some (some z, k, bytes))
  (hzs : z.cells.size = k) (hk : 0 < k) (v : Value) (n : Nat) (xs : List Value) (hs : a.eval s = v) (hown : Rwg e k base w v n xs) (g m c : Nat) (news : List Value) (hx : a.eval x = .slice (some ⟨g, 0, none⟩) m c) (hl : news.length = m * k)
  (hnews : ∀ j u, news[j]? = some u → w.cell? ⟨g, j, none⟩ = some u) (h1 : ∀ u ∈ news, u.oneCell' = true) (h63 : n + m ≤ 140737488355328) (hbytes : (n + m) * bytes ≤ 140737488355328) (hbase : base ≤ w.heap.size)
  (h : ∀ v' w', Rwg e k base w' v' (n + m) (xs ++ news) → w.grownBy w' v.ownBlock → Below base w w' → wpList P ops Q rest (a.put o.dst v') w') :
  wpList P ops Q (o :: rest) a w := by
 obtain ⟨i, hi, hz0, hz1, hz2⟩ := info_parts hinfo
 refine wpList_append_own_at w hgd s x t ho base e i z k bytes ht hi hz0 hz1 hz2 hzs hk v n xs hs hown ⟨g, 0, none⟩ m c news hx hl (fun j u hj => by cases j <;> simpa [Addr.add] using hnews _ u hj) h1 (by unfold maxLen; omega) hbytes hbase ?_
 intro v' w' h2 h3 _ _
 refine h v' w' h2 h3 ((Below.refl base w).grown h3 hbase fun b hb => ?_)
 obtain ⟨_, ⟨hv, _⟩ | ⟨g, cap, cur, hv, hb2, _⟩⟩ := hown
 ·rw [hv] at hb; cases hb
 ·rw [hv] at hb; cases hb; exact hb2
theorem cells_new (w : World) (cs : Array Value) (t : Nat) : ∀ j u, cs.toList[j]? = some u → (w.alloc (.cells cs t)).cell? ⟨w.heap.size, j, none⟩ = some u := by
 intro j u hj
 simp only [World.cell?]
 have : (w.alloc (.cells cs t)).heap[w.heap.size]? = some (.cells cs t) := by show (w.heap.push _)[w.heap.size]? = _; simp
 rw [this]
 show cs[j]? = some u
 simpa using hj
theorem cells_newE (w : World) (cs : Array Value) (t g : Nat) (hg : w.heap.size = g) : ∀ j u, cs.toList[j]? = some u → (w.alloc (.cells cs t)).cell? ⟨g, j, none⟩ = some u := by subst hg; exact cells_new w cs t
/-- Cells of a block written one after the other. -/
def setL : World → Nat → Nat → List Value → World
 | W, _, _, [] => W
 | W, b, j, v :: vs => setL (W.setCell ⟨b, j, none⟩ v) b (j + 1) vs
theorem setL_other : ∀ (vs : List Value) (W : World) (b j : Nat) (p : Addr), (p.block ≠ b ∨ (p = ⟨b, p.off, none⟩ ∧ p.off < j)) → World.cell? (setL W b j vs) p = World.cell? W p
 | [], _, _, _, _, _ => rfl
 | v :: vs, W, b, j, p, h => by
  unfold setL
  rw [setL_other vs _ b (j + 1) p (h.imp id fun ⟨h1, h2⟩ => ⟨h1, by omega⟩)]
  refine World.cell?_setCell_other _ _ _ _ ?_
  rintro rfl
  rcases h with h | ⟨_, h⟩
  ·exact h rfl
  ·exact Nat.lt_irrefl _ h
theorem setL_cell : ∀ (vs : List Value) (W : World) (b j : Nat), (∀ i, i < vs.length → (World.cell? W ⟨b, j + i, none⟩).isSome) → ∀ (i : Nat) (v : Value), vs[i]? = some v → World.cell? (setL W b j vs) ⟨b, j + i, none⟩ = some v
 | [], _, _, _, _, i, v, h => by simp at h
 | u :: vs, W, b, j, hs, i, v, h => by
  unfold setL
  cases i with
  | zero =>
   simp at h
   subst h
   rw [setL_other vs _ b (j + 1) ⟨b, j + 0, none⟩ (.inr ⟨rfl, by simp⟩)]
   exact World.cell?_setCell_same' _ _ _ (hs 0 (by simp))
  | succ i =>
   simp at h
   have := setL_cell vs (W.setCell ⟨b, j, none⟩ u) b (j + 1) (fun k hk => ?_) i v h
   ·rw [show j + (i + 1) = j + 1 + i by omega]; exact this
   ·rw [World.cell?_setCell_other _ _ _ _ (by intro e; injection e with e1 e2; omega)]
    have := hs (k + 1) (by simp; omega)
    rwa [show j + (k + 1) = j + 1 + k by omega] at this
theorem setL_below : ∀ (vs : List Value) (W w : World) (b j base : Nat), Below base w W → base ≤ b → Below base w (setL W b j vs)
 | [], _, _, _, _, _, h, _ => h
 | v :: vs, W, w, b, j, base, h, hb => by
  unfold setL
  exact setL_below vs _ w b (j + 1) base (h.setCell (p := ⟨b, j, none⟩) hb v) hb
theorem setL_gr : ∀ (vs : List Value) (W : World) (b j : Nat), (∀ i, i < vs.length → ∃ u, World.cell? W ⟨b, j + i, none⟩ = some u ∧ NoWord u) → Gr W (setL W b j vs)
 | [], W, _, _, _ => Gr.refl W
 | v :: vs, W, b, j, h => by
  unfold setL
  obtain ⟨u, hu, hn⟩ := h 0 (by simp)
  refine ((Gr.refl W).set (p := ⟨b, j, none⟩) hu hn v).trans (setL_gr vs _ b (j + 1) fun i hi => ?_)
  obtain ⟨u, hu, hn⟩ := h (i + 1) (by simp; omega)
  refine ⟨u, ?_, hn⟩
  rw [World.cell?_setCell_other _ _ _ _ (by intro e; injection e with e1 e2; omega), show j + 1 + i = j + (i + 1) by omega]
  exact hu
end Go.Proofs.YtknffgdbdadpcaaGreatDoor
