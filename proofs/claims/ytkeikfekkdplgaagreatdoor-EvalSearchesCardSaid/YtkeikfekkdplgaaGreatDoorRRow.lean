/-
 The reference package: plus, minus, left: every slices of words of at most 2^30 words.
-/
import Derived.Test.YtkeikfekkdplgaaGreatDoorRws
import Derived.Test.YtkeikfekkdplgaaGreatDoorRWord
namespace Go.Proofs.YtkeikfekkdplgaaGreatDoor
open Go Go.RowKit

/-- What the loop of plus keeps. -/
def PlI (w : World) (A B : List Nat) (N gk : Nat) (v5 v6 v7 : Value) (wr : World) : Prop :=
 ∃ (xs : List Nat) (k c : Nat), v6 = .int .u64 (c : Int) ∧ v7 = .int .i64 (k : Int) ∧ k + gk = N ∧ Rw wr w.heap.size v5 xs ∧ PlusS A B xs k c ∧ Ext w wr

theorem row_next {wr : World} {base : Nat} {v : Value} {xs : List Nat} {u : Nat} {y : Int} (hr : RowOf 145 isU32 wr base v (wcells xs ++ [.int .u32 y])) (hx : ∀ i, xs.getD i 0 < 4294967296) (hy : y = (u : Int)) (hu : u < 4294967296) : Rw wr base v (xs ++ [u]) := by
 subst hy
 rw [wcells_snoc] at hr
 exact ⟨hr, snoc_lt hx hu⟩

set_option maxRecDepth 100000 in
set_option maxHeartbeats 1000000 in
theorem plus_wd (w : World) (a1 a2 : Option Addr) (n1 n2 c1 c2 : Nat) (A B : List Nat) (h1 : Wd w a1 n1 c1 A) (h2 : Wd w a2 n2 c2 B) (s1 : n1 ≤ 1073741824) (s2 : n2 ≤ 1073741824) :
  Calls Tryz.prog 74 #[.slice a1 n1 c1, .slice a2 n2 c2] w (Ret w (IsWk (max n1 n2 + 1) (natVal A + natVal B))) := by
 have HA := hid h1.lt
 have HB := hid h2.lt
 have HW1 := hid h1
 have HW2 := hid h2
 obtain ⟨N, hN⟩ : ∃ N, N = max n1 n2 := ⟨_, rfl⟩
 have hlA : A.length ≤ N := by rw [h1.len]; omega
 have hlB : B.length ≤ N := by rw [h2.len]; omega
 have hNs : N ≤ 1073741824 := by omega
 have HF := hid (And.intro hlA hlB)
 rw [← hN]
 obtain ⟨W, hW⟩ : ∃ W, W = w.alloc (.cells #[] 145) := ⟨_, rfl⟩
 have I0 : Hid (PlI w A B N N (.slice (some ⟨w.heap.size, 0, none⟩) 0 0) (.int .u64 0) (.int .i64 0) W) := hid ⟨[], 0, 0, rfl, rfl, by omega, hW ▸ Rw.start w _ (Nat.le_refl _), PlusS.start A B, by rw [hW]; exact (Ext.refl w).alloc _⟩
 have hmx : ∀ k : Nat, k ≤ N → ((k < n1 ∨ k < n2) ↔ k < N) := fun k hk => by omega
 have Hm := hid hmx
 have hNi : (N : Int) = max (n1 : Int) (n2 : Int) := by omega
 clear h1 h2 hlA hlB hN hmx
 go_enter Tryz.func74, Tryz.ntmps74
 go_wp2_with fail
 rw [← hW]
 clear hW
 go_loopg [5, 6, 7] N (fun gk v5 v6 v7 wr => Hid (PlI w A B N gk v5 v6 v7 wr))
 case atStart => exact I0
 case round =>
  clear I0
  obtain ⟨xs, k, c, rfl, rfl, hk, hr, hs, E⟩ := hrel.out
  clear hrel
  have hc1 := hs.2.2.2
  have HLen : Hid (xs.length ≤ 1073741824) := by have h0 := hs.1; exact hid (by omega)
  have HS : Hid (w.heap.size ≤ wr.heap.size) := hid E.size
  have HR := hid hr
  have HST := hid hs
  have HE := hid E
  clear hr hs E
  by_cases hkN : k < N
  ·have W1 := hid (word_c wr a1 n1 c1 A (HW1.out.ext HE.out) k (by omega))
   have W2 := hid (word_c wr a2 n2 c2 B (HW2.out.ext HE.out) k (by omega))
   have hst := HST.out.step HA.out HB.out
   have hx := HA.out k
   have hy := HB.out k
   generalize A.getD k 0 = x at *
   generalize B.getD k 0 = y at *
   have Hst := hid hst
   have hdec : decide ((k : Int) < max (n1 : Int) (n2 : Int)) = true := by simp; omega
   have hj : ¬ ((k : Int) < (n1 : Int)) → (k : Int) < (n2 : Int) := by omega
   clear hst
   obtain ⟨u, hu⟩ : ∃ u : Nat, (c + (x + y)) % 4294967296 = u := ⟨_, rfl⟩
   rw [hu] at Hst
   have hul : u < 4294967296 := by omega
   go_wp2_with fail
   all_goals
    refine Calls.mono W1.out ?_
    rintro e w1 ⟨rfl, rfl⟩
    go_wp2_with fail
    refine Calls.mono W2.out ?_
    rintro e w1 ⟨rfl, rfl⟩
    go_wp2_with (at_builtin; go_must (refine wpl_row rfl _ _ 26 145 rfl isU32 (.int .u32 0) 4 (by kernel_rfl) Tryz.infoU32 rfl ⟨0, rfl⟩ (w.heap.size) _ _ rfl (HR.out.1.ext ((Ext.refl _).alloc _)) _ _ (.int .u32 ((u : Nat) : Int)) rfl (by (try simp); (try omega)) rfl ⟨_, rfl⟩ (by have := HLen.out; rw [wcells_length]; omega) (by have := HLen.out; rw [wcells_length]; omega) (by have := HS.out; (try simp); (try omega)) ?_; intro v9 w9 hr9 hb9 hg9))
    have J' : Hid (PlI w A B N (gk - 1) v9 (.int .u64 (((c + (x + y)) / 4294967296 : Nat) : Int)) (.int .i64 ((k : Int) + 1)) w9) := hid ⟨_, k + 1, _, rfl, rfl, by omega, row_next hr9 HST.out.2.1 rfl hul, Hst.out, Below.ext (HE.out.alloc _) hb9 (Nat.le_refl _)⟩
    go_roundg (gk - 1)
    case measure => omega
    case rel => exact J'
  ·obtain rfl : k = N := by omega
   have hfin := HST.out.fin HF.out.1 HF.out.2
   have Hfin := hid hfin
   have hdec : decide ((k : Int) < max (n1 : Int) (n2 : Int)) = false := by simp; omega
   have hj1 : ¬ k < n1 := by omega
   have hj2 : ¬ k < n2 := by omega
   clear hfin
   go_wp2_with (at_builtin; go_must (refine wpl_row rfl _ _ 26 145 rfl isU32 (.int .u32 0) 4 (by kernel_rfl) Tryz.infoU32 rfl ⟨0, rfl⟩ (w.heap.size) _ _ rfl (HR.out.1.ext ((Ext.refl _).alloc _)) _ _ (.int .u32 ((c : Nat) : Int)) rfl (by (try simp); (try omega)) rfl ⟨_, rfl⟩ (by have := HLen.out; rw [wcells_length]; omega) (by have := HLen.out; rw [wcells_length]; omega) (by have := HS.out; (try simp); (try omega)) ?_; intro v9 w9 hr9 hb9 hg9))
   go_ret
   exact ⟨_, rfl, Below.ext (HE.out.alloc _) hb9 (Nat.le_refl _), Rw.isWk (xs := xs ++ [c]) ⟨by rw [wcells_snoc] at hr9; exact hr9, Hfin.out.2⟩ (by have := HST.out.1; simp; omega) Hfin.out.1⟩

/-- What the loop of minus keeps. -/
def MiI (w : World) (A B : List Nat) (N gk : Nat) (v5 v6 v7 : Value) (wr : World) : Prop :=
 ∃ (xs : List Nat) (k c : Nat), v6 = .int .u64 (c : Int) ∧ v7 = .int .i64 (k : Int) ∧ k + gk = N ∧ Rw wr w.heap.size v5 xs ∧ MinusS A B xs k c ∧ Ext w wr

set_option maxRecDepth 100000 in
set_option maxHeartbeats 1000000 in
theorem minus_wd (w : World) (a1 a2 : Option Addr) (n1 n2 c1 c2 : Nat) (A B : List Nat) (h1 : Wd w a1 n1 c1 A) (h2 : Wd w a2 n2 c2 B) (s1 : n1 ≤ 1073741824) (hle : natVal B ≤ natVal A) :
  Calls Tryz.prog 75 #[.slice a1 n1 c1, .slice a2 n2 c2] w (Ret w (IsWk n1 (natVal A - natVal B))) := by
 have HA := hid h1.lt
 have HB := hid h2.lt
 have HW1 := hid h1
 have HW2 := hid h2
 have HF := hid h1.len
 have HLe := hid hle
 obtain ⟨W, hW⟩ : ∃ W, W = w.alloc (.cells #[] 145) := ⟨_, rfl⟩
 have I0 : Hid (MiI w A B n1 n1 (.slice (some ⟨w.heap.size, 0, none⟩) 0 0) (.int .u64 0) (.int .i64 0) W) := hid ⟨[], 0, 0, rfl, rfl, by omega, hW ▸ Rw.start w _ (Nat.le_refl _), MinusS.start A B, by rw [hW]; exact (Ext.refl w).alloc _⟩
 clear h1 h2 hle
 go_enter Tryz.func75, Tryz.ntmps75
 go_wp2_with fail
 rw [← hW]
 clear hW
 go_loopg [5, 6, 7] n1 (fun gk v5 v6 v7 wr => Hid (MiI w A B n1 gk v5 v6 v7 wr))
 case atStart => exact I0
 case round =>
  clear I0
  obtain ⟨xs, k, c, rfl, rfl, hk, hr, hs, E⟩ := hrel.out
  clear hrel
  have hc1 := hs.2.2.2
  have HLen : Hid (xs.length ≤ 1073741824) := by have h0 := hs.1; exact hid (by omega)
  have HS : Hid (w.heap.size ≤ wr.heap.size) := hid E.size
  have HR := hid hr
  have HST := hid hs
  have HE := hid E
  clear hr hs E
  by_cases hkN : k < n1
  ·have W1 := hid (word_c wr a1 n1 c1 A (HW1.out.ext HE.out) k (by omega))
   have W2 := hid (word_c wr a2 n2 c2 B (HW2.out.ext HE.out) k (by omega))
   have hst := HST.out.step HA.out HB.out
   have hx := HA.out k
   have hy := HB.out k
   generalize A.getD k 0 = x at *
   generalize B.getD k 0 = y at *
   have Hst := hid hst
   clear hst
   obtain ⟨t, ht⟩ : ∃ t, t = 4294967296 + x - y - c := ⟨_, rfl⟩
   have ht1 : (4294967296 : Int) + (x : Int) - (y : Int) - (c : Int) = (t : Int) := by omega
   have ht2 : t < 8589934592 := by omega
   have ht3 : ((t : Int) / 4294967296) ≤ 1 := by omega
   rw [← ht] at Hst
   obtain ⟨u, hu⟩ : ∃ u : Nat, t % 4294967296 = u := ⟨_, rfl⟩
   rw [hu] at Hst
   have hul : u < 4294967296 := by omega
   clear ht
   go_wp2_with fail
   refine Calls.mono W1.out ?_
   rintro e w1 ⟨rfl, rfl⟩
   go_wp2_with fail
   refine Calls.mono W2.out ?_
   rintro e w1 ⟨rfl, rfl⟩
   go_wp2_with (at_builtin; go_must (refine wpl_row rfl _ _ 26 145 rfl isU32 (.int .u32 0) 4 (by kernel_rfl) Tryz.infoU32 rfl ⟨0, rfl⟩ (w.heap.size) _ _ rfl (HR.out.1.ext ((Ext.refl _).alloc _)) _ _ (.int .u32 ((u : Nat) : Int)) rfl (by (try simp); (try omega)) rfl ⟨_, rfl⟩ (by have := HLen.out; rw [wcells_length]; omega) (by have := HLen.out; rw [wcells_length]; omega) (by have := HS.out; (try simp); (try omega)) ?_; intro v9 w9 hr9 hb9 hg9))
   have J' : Hid (MiI w A B n1 (gk - 1) v9 (.int .u64 (1 - (t : Int) / 4294967296)) (.int .i64 ((k : Int) + 1)) w9) := hid ⟨_, k + 1, 1 - t / 4294967296, congrArg (Value.int .u64) (by omega), rfl, by omega, row_next hr9 HST.out.2.1 rfl hul, Hst.out, Below.ext (HE.out.alloc _) hb9 (Nat.le_refl _)⟩
   go_roundg (gk - 1)
   case measure => omega
   case rel => exact J'
  ·obtain rfl : k = n1 := by omega
   have hfin := HST.out.fin HA.out (by rw [HF.out]; exact Nat.le_refl _) HLe.out
   have Hfin := hid hfin
   clear hfin
   go_wp2_with fail
   go_ret
   exact ⟨_, rfl, HE.out, HR.out.isWk (by have := HST.out.1; omega) Hfin.out⟩

theorem left_math (x y r : Nat) (hr : r < 32) (hx : x < 4294967296) (hy : y < 4294967296) (X Y : Nat) (hX : X = x * 2 ^ r) (hY : Y = y * 2 ^ r) :
  X < 9223372036854775808 ∧ Y < 9223372036854775808 ∧ X ||| (Y / 4294967296) = X + Y / 4294967296 ∧ X % 4294967296 + Y / 4294967296 < 4294967296 ∧ (X + Y / 4294967296) % 4294967296 = X % 4294967296 + Y / 4294967296 := by
 obtain ⟨a1, a2, _⟩ := shl_top x r hr hx
 obtain ⟨b1, b2, _⟩ := shl_top y r hr hy
 have c2 := (shl_word x r (y * 2 ^ r / 4294967296) hr b1).2
 rw [← hX] at a1 a2 c2
 rw [← hY] at b1 b2 c2
 refine ⟨a2, b2, nat_join r _ _ (by rw [hX]; exact Nat.mul_mod_left _ _) b1, by omega, by omega⟩

/-- What the loop of left keeps. -/
def LfI (w : World) (A : List Nat) (n1 q R gk : Nat) (v5 v7 : Value) (wr : World) : Prop :=
 ∃ (xs : List Nat) (i : Nat), v7 = .int .i64 (i : Int) ∧ i + gk = n1 + 1 ∧ Rw wr w.heap.size v5 xs ∧ LeftS A xs q R i ∧ Ext w wr

set_option maxRecDepth 100000 in
set_option maxHeartbeats 1000000 in
theorem left_wd (w : World) (a1 : Option Addr) (n1 c1 s : Nat) (A : List Nat) (h1 : Wd w a1 n1 c1 A) (s1 : n1 ≤ 1073741824) (s2 : s ≤ 17179869184) :
  Calls Tryz.prog 208 #[.slice a1 n1 c1, .int .i64 (s : Int)] w (Ret w (fun v w' => ∃ xs, Rw w' w.heap.size v xs ∧ natVal xs = 2 ^ s * natVal A ∧ xs.length = s / 32 + n1 + 1)) := by
 have HA := hid h1.lt
 have HlA := hid h1.len
 have HW1 := hid h1
 obtain ⟨q, hq⟩ : ∃ q, q = s / 32 := ⟨_, rfl⟩
 obtain ⟨r, hr⟩ : ∃ r, r = s % 32 := ⟨_, rfl⟩
 have hqi : (s : Int) / 32 = (q : Int) := by omega
 have hri : (s : Int) % 32 = (r : Int) := by omega
 have hr32 : r < 32 := by omega
 have hq2 : q ≤ 536870912 := by omega
 have HP : Hid (2 ^ s = 4294967296 ^ q * 2 ^ r) := by
  show _ = _
  rw [show (4294967296 : Nat) = 2 ^ 32 from rfl, ← Nat.pow_mul, ← Nat.pow_add, hq, hr, Nat.div_add_mod]
 rw [← hq]
 clear h1 hq hr
 go_enter Tryz.func208, Tryz.ntmps208
 go_wp2_with (at_make; refine wpl_make rfl _ _ _ rfl (by kernel_rfl) _ _ q rfl rfl (by first | exact hqi | omega) (by first | exact hqi | omega) (by omega) ?_; intro w1 e1 z1 o1)
 have I0 : Hid (LfI w A n1 q (2 ^ r) (n1 + 1) (.slice (some ⟨w.heap.size, 0, none⟩) q q) (.int .i64 0) w1) := hid ⟨_, 0, rfl, by omega, by
  have h := Rw.own (base := w.heap.size) o1 (Nat.le_refl _) (fun i => by rw [getD_zeros]; omega) (by simp; omega)
  simpa using h, LeftS.start A q _, e1⟩
 clear o1 e1 z1
 rw [hri]
 clear hri hqi
 go_loopg [5, 7] (n1 + 1) (fun gk v5 v7 wr => Hid (LfI w A n1 q (2 ^ r) gk v5 v7 wr))
 case atStart => exact I0
 case round =>
  clear I0
  obtain ⟨xs, i, rfl, hi, hr, hs, E⟩ := hrel.out
  clear hrel
  have HLen : Hid (xs.length ≤ 2147483648) := by have h0 := hs.1; exact hid (by omega)
  have HS : Hid (w.heap.size ≤ wr.heap.size) := hid E.size
  have HR := hid hr
  have HST := hid hs
  have HE := hid E
  clear hr hs E
  by_cases hin : i ≤ n1
  ·have W1 := hid (word_c wr a1 n1 c1 A (HW1.out.ext HE.out) i (by omega))
   obtain ⟨y, hyd⟩ : ∃ y, y = if i = 0 then 0 else A.getD (i - 1) 0 := ⟨_, rfl⟩
   have W2 : Hid (Calls Tryz.prog 94 #[.slice a1 n1 c1, .int .i64 ((i : Int) - 1)] wr (RSame wr (.int .u64 (y : Int)))) := by
    show Calls _ _ _ _ _
    rcases Nat.eq_zero_or_pos i with h0 | h0
    ·subst h0
     rw [hyd, if_pos rfl]
     exact word_neg wr a1 n1 c1
    ·rw [hyd, if_neg (by omega), show ((i : Int) - 1) = ((i - 1 : Nat) : Int) by omega]
     exact word_c wr a1 n1 c1 A (HW1.out.ext HE.out) (i - 1) (by omega)
   have hyl : y < 4294967296 := by
    rw [hyd]; split
    ·omega
    ·exact HA.out _
   have hst := HST.out.step (y * 2 ^ r / 4294967296) (by rw [hyd])
   have hxl := HA.out i
   generalize A.getD i 0 = x at *
   obtain ⟨X, hX⟩ : ∃ X, X = x * 2 ^ r := ⟨_, rfl⟩
   obtain ⟨Y, hY⟩ : ∃ Y, Y = y * 2 ^ r := ⟨_, rfl⟩
   obtain ⟨m1, m2, m3, m4, m5⟩ := left_math x y r hr32 hxl hyl X Y hX hY
   have Hst := hid (hst (by rw [← hX, ← hY]; exact m4))
   rw [← hX, ← hY] at Hst
   clear hst hyd
   have hX2 : IntKind.u64.wrap ((x : Int) * 2 ^ r) = (X : Int) := by
    have e : (x : Int) * 2 ^ r = ((x * 2 ^ r : Nat) : Int) := by rw [Int.natCast_mul, Int.natCast_pow]; rfl
    rw [IntKind.wrap_u64, e, ← hX]; omega
   have hY2 : IntKind.u64.wrap ((y : Int) * 2 ^ r) = (Y : Int) := by
    have e : (y : Int) * 2 ^ r = ((y * 2 ^ r : Nat) : Int) := by rw [Int.natCast_mul, Int.natCast_pow]; rfl
    rw [IntKind.wrap_u64, e, ← hY]; omega
   have hor : bits .or .u64 (X : Int) ((Y : Int) / 4294967296) = ((X + Y / 4294967296 : Nat) : Int) := by
    have h := u64_or_nat X (Y / 4294967296) (by omega) (by omega)
    rw [m3] at h
    rw [← h]; simp
   clear hX hY m3
   obtain ⟨u, hu⟩ : ∃ u : Nat, X % 4294967296 + Y / 4294967296 = u := ⟨_, rfl⟩
   rw [hu] at Hst m4 m5
   go_wp2_with fail
   refine Calls.mono W1.out ?_
   rintro e w1 ⟨rfl, rfl⟩
   go_wp2_with fail
   refine Calls.mono W2.out ?_
   rintro e w1 ⟨rfl, rfl⟩
   go_wp2_with (at_builtin; go_must (refine wpl_row rfl _ _ 26 145 rfl isU32 (.int .u32 0) 4 (by kernel_rfl) Tryz.infoU32 rfl ⟨0, rfl⟩ (w.heap.size) _ _ rfl (HR.out.1.ext ((Ext.refl _).alloc _)) _ _ (.int .u32 ((u : Nat) : Int)) rfl (by (try simp); (try omega)) rfl ⟨_, rfl⟩ (by have := HLen.out; rw [wcells_length]; omega) (by have := HLen.out; rw [wcells_length]; omega) (by have := HS.out; (try simp); (try omega)) ?_; intro v9 w9 hr9 hb9 hg9))
   have J' : Hid (LfI w A n1 q (2 ^ r) (gk - 1) v9 (.int .i64 ((i : Int) + 1)) w9) := hid ⟨_, i + 1, rfl, by omega, row_next hr9 HST.out.2.1 rfl m4, Hst.out, Below.ext (HE.out.alloc _) hb9 (Nat.le_refl _)⟩
   go_roundg (gk - 1)
   case measure => omega
   case rel => exact J'
  ·obtain rfl : i = n1 + 1 := by omega
   have hs2 := HST.out
   rw [← HlA.out] at hs2
   have hfin := hs2.fin
   rw [← HP.out] at hfin
   have Hfin := hid hfin
   clear hfin hs2
   go_wp2_with fail
   go_ret
   exact ⟨_, rfl, HE.out, xs, HR.out, Hfin.out, by have := HST.out.1; omega⟩
end Go.Proofs.YtkeikfekkdplgaaGreatDoor
