/-
  cmp.Compare at int and uint32; the comparison of two naturals in package integer. At most 2^30 words each.
-/
import Derived.Test.YtpflfagjkmeeiaaDoorBase
import Derived.Test.YtpflfagjkmeeiaaDoorNatMath
import Derived.Test.YtpflfagjkmeeiaaDoorBits32
import Derived.Test.YtpflfagjkmeeiaaDoorSub
namespace Go.Proofs.YtpflfagjkmeeiaaDoor
open Go Go.RowKit

/-- -1, 0 or 1. -/
def cmpI (a b : Int) : Int := if a < b then -1 else if b < a then 1 else 0
theorem cmpI_lt {a b : Int} (h : a < b) : cmpI a b = -1 := by simp [cmpI, h]
theorem cmpI_gt {a b : Int} (h : b < a) : cmpI a b = 1 := by have : ¬ a < b := by omega
                                                             simp [cmpI, h, this]
theorem cmpI_eq {a b : Int} (h : a = b) : cmpI a b = 0 := by subst h; simp [cmpI]
theorem ret_int {k : IntKind} {a b : Int} (h : a = b) : Ending.returned (.int k a) = .returned (.int k b) := by rw [h]

set_option maxHeartbeats 400000 in
theorem compare_int_c (a b : Int) (w : World) : Calls Tryd.prog 43 #[.int .i64 a, .int .i64 b] w (RSame w (.int .i64 (cmpI a b))) := by
  have hn : ∀ x : Int, (x != x) = false := fun x => by simp
  rcases Int.lt_trichotomy a b with h | h | h
  · rw [cmpI_lt h]
    go_enter Tryd.func43, Tryd.ntmps43
    go_wp2
    go_ret
    exact ⟨rfl, rfl⟩
  · rw [cmpI_eq h]
    subst h
    go_enter Tryd.func43, Tryd.ntmps43
    go_wp2
    go_ret
    exact ⟨rfl, rfl⟩
  · rw [cmpI_gt h]
    have h' : ¬ a < b := by omega
    go_enter Tryd.func43, Tryd.ntmps43
    go_wp2
    go_ret
    exact ⟨rfl, rfl⟩
set_option maxHeartbeats 400000 in
theorem compare_u32_c (a b : Int) (w : World) : Calls Tryd.prog 62 #[.int .u32 a, .int .u32 b] w (RSame w (.int .i64 (cmpI a b))) := by
  have hn : ∀ x : Int, (x != x) = false := fun x => by simp
  rcases Int.lt_trichotomy a b with h | h | h
  · rw [cmpI_lt h]
    go_enter Tryd.func62, Tryd.ntmps62
    go_wp2
    go_ret
    exact ⟨rfl, rfl⟩
  · rw [cmpI_eq h]
    subst h
    go_enter Tryd.func62, Tryd.ntmps62
    go_wp2
    go_ret
    exact ⟨rfl, rfl⟩
  · rw [cmpI_gt h]
    have h' : ¬ a < b := by omega
    go_enter Tryd.func62, Tryd.ntmps62
    go_wp2
    go_ret
    exact ⟨rfl, rfl⟩

theorem pv_lt_of (xs ys : List Nat) (hx : ∀ i, xs.getD i 0 < 4294967296) (k : Nat) (h : xs.getD k 0 < ys.getD k 0) : ∀ m, k < m → (∀ i, k < i → xs.getD i 0 = ys.getD i 0) → pv xs m < pv ys m := by
  intro m
  induction m with
  | zero => intro h; omega
  | succ m ih =>
    intro hm he
    rw [pv, pv]
    rcases Nat.lt_or_ge k m with h1 | h1
    · have := ih h1 he
      rw [he m h1]; omega
    · obtain rfl : m = k := by omega
      have h2 := pv_lt xs hx m
      have h3 : 4294967296 ^ m * (xs.getD m 0 + 1) ≤ 4294967296 ^ m * ys.getD m 0 := Nat.mul_le_mul_left _ h
      rw [Nat.mul_add, Nat.mul_one] at h3
      omega

/-- What the loop of cmp keeps: from place k on the words are the same. -/
def SameFrom (A B : List Nat) (k : Nat) : Prop := ∀ i, k ≤ i → A.getD i 0 = B.getD i 0
theorem SameFrom.step {A B : List Nat} {k : Nat} (h : SameFrom A B (k + 1)) (he : A.getD k 0 = B.getD k 0) : SameFrom A B k := fun i hi => by
  rcases Nat.lt_or_ge k i with h1 | h1
  · exact h i h1
  · obtain rfl : i = k := by omega
    exact he
theorem SameFrom.lt {A B : List Nat} {k n : Nat} (h : SameFrom A B (k + 1)) (hA : ∀ i, A.getD i 0 < 4294967296) (hk : k < n) (ha : A.length = n) (hb : B.length = n) (hlt : A.getD k 0 < B.getD k 0) : natVal A < natVal B := by
  have := pv_lt_of A B hA k hlt n hk (fun i hi => h i hi)
  rwa [pv_all A n (Nat.le_of_eq ha), pv_all B n (Nat.le_of_eq hb)] at this
theorem SameFrom.symm {A B : List Nat} {k : Nat} (h : SameFrom A B k) : SameFrom B A k := fun i hi => (h i hi).symm
theorem SameFrom.eq {A B : List Nat} {n : Nat} (h : SameFrom A B 0) (ha : A.length = n) (hb : B.length = n) : natVal A = natVal B := by
  have := pv_congr (k := n) (fun i _ => h i (Nat.zero_le _))
  rwa [pv_all A n (Nat.le_of_eq ha), pv_all B n (Nat.le_of_eq hb)] at this

set_option maxRecDepth 100000 in
set_option maxHeartbeats 1000000 in
theorem cmp_same (w : World) (a1 a2 : Option Addr) (n c1 c2 : Nat) (A B : List Nat) (h1 : Wd w a1 n c1 A) (h2 : Wd w a2 n c2 B) (s1 : n ≤ 1073741824) :
    Calls Tryd.prog 39 #[.slice a1 n c1, .slice a2 n c2] w (RVal w (.int .i64 (cmpI (natVal A) (natVal B)))) := by
  have HA := hid h1.lt
  have HB := hid h2.lt
  have HlA := hid h1.len
  have HlB := hid h2.len
  have HW1 := hid h1
  have HW2 := hid h2
  have sh1 := h1.shape
  have sh2 := h2.shape
  clear h1 h2
  have h00 : cmpI (n : Int) (n : Int) = 0 := cmpI_eq rfl
  rcases sh1 with sh1 | ⟨b1, off1, rfl, hb1⟩ <;> rcases sh2 with sh2 | ⟨b2, off2, rfl, hb2⟩
  all_goals
    go_enter Tryd.func39, Tryd.ntmps39
    go_wp2_with (go_at_call 43; refine (compare_int_c _ _ _).mono ?_; rintro e w' ⟨rfl, rfl⟩)
    clear h00
    go_loopw [6] (fun i wr => ∃ z : Int, -1 ≤ z ∧ z < n ∧ i = .int .i64 z ∧ Hid (SameFrom A B (z + 1).toNat) ∧ Ext w wr) (fun i _ => (intOf i + 1).toNat)
    case atStart => exact ⟨(n : Int) - 1, by omega, by omega, rfl, fun i hi => by rw [getD_big _ _ (by rw [HlA.out]; omega), getD_big _ _ (by rw [HlB.out]; omega)], Ext.refl _⟩
    case round =>
      obtain ⟨z, hz1, hz2, rfl, hsame, hext⟩ := hrel
      by_cases hz0 : 0 ≤ z
      · obtain ⟨j, rfl⟩ := Int.eq_ofNat_of_zero_le hz0
        first
          | (exfalso; omega)
          | (have c1 := (HW1.out.ext hext).cell j (by omega)
             have c2 := (HW2.out.ext hext).cell j (by omega)
             have hsame' : SameFrom A B (j + 1) := hsame.out
             have HC : ∀ x y : Nat, A.getD j 0 = x → B.getD j 0 = y → (x < y → natVal A < natVal B) ∧ (y < x → natVal B < natVal A) ∧ (x = y → SameFrom A B j) := fun x y hx hy =>
               ⟨fun h => hsame'.lt HA.out (by omega) HlA.out HlB.out (by rw [hx, hy]; exact h), fun h => hsame'.symm.lt HB.out (by omega) HlB.out HlA.out (by rw [hx, hy]; exact h), fun h => hsame'.step (by rw [hx, hy]; exact h)⟩
             have HC := hid (HC _ _ rfl rfl)
             clear hsame hsame'
             generalize A.getD j 0 = x at c1 HC
             generalize B.getD j 0 = y at c2 HC
             go_wp2_with fail
             go_quiet ((go_at_call 62; exact quiet_same (compare_u32_c _ _ _)))
             rcases Nat.lt_trichotomy x y with h | h | h
             · have hv : cmpI (x : Int) (y : Int) = -1 := cmpI_lt (by omega)
               rw [hv]
               have hg := hid (HC.out.1 h)
               clear hv
               go_wp2_with fail
               go_ret
               exact ⟨ret_int (by rw [cmpI_lt (by exact_mod_cast hg.out)]), hext.drewN _⟩
             · have hv : cmpI (x : Int) (y : Int) = 0 := cmpI_eq (by omega)
               rw [hv]
               have hg := hid (HC.out.2.2 h)
               clear hv h
               go_wp2_with fail
               go_roundw
               case rel => exact ⟨(j : Int) - 1, by omega, by omega, rfl, by rw [show ((j : Int) - 1 + 1).toNat = j from by omega]; exact hg, hext.drewN _⟩
               case measure => simp [intOf]
             · have hv : cmpI (x : Int) (y : Int) = 1 := cmpI_gt (by omega)
               rw [hv]
               have hg := hid (HC.out.2.1 h)
               clear hv
               go_wp2_with fail
               go_ret
               exact ⟨ret_int (by rw [cmpI_gt (by exact_mod_cast hg.out)]), hext.drewN _⟩)
      · obtain rfl : z = -1 := by omega
        have hv : SameFrom A B 0 := hsame.out
        have hg := hid (hv.eq HlA.out HlB.out)
        clear hv hsame
        go_wp2_with fail
        go_ret
        exact ⟨ret_int (cmpI_eq (congrArg (fun n : Nat => (n : Int)) hg.out)).symm, hext⟩

theorem cmp_c (w : World) (a1 a2 : Option Addr) (n1 n2 c1 c2 k1 k2 x y : Nat) (h1 : NatAt w k1 a1 n1 c1 x) (h2 : NatAt w k2 a2 n2 c2 y) (s1 : k1 ≤ 1073741824) :
    Calls Tryd.prog 39 #[.slice a1 n1 c1, .slice a2 n2 c2] w (RVal w (.int .i64 (cmpI x y))) := by
  obtain ⟨xs, h1, l1, z1, rfl⟩ := h1
  obtain ⟨ys, h2, l2, z2, rfl⟩ := h2
  have e1 := h1.len
  have e2 := h2.len
  rcases Nat.lt_trichotomy n1 n2 with h | h | h
  · have hv : natVal xs < natVal ys := by
      have a := natVal_lt xs h1.lt
      have b := natVal_ge ys (by omega) (by rw [e2]; exact z2 (by omega))
      have c : 4294967296 ^ xs.length ≤ 4294967296 ^ (ys.length - 1) := Nat.pow_le_pow_right (by omega) (by omega)
      omega
    rw [cmpI_lt (by exact_mod_cast hv)]
    have hc : cmpI (n1 : Int) (n2 : Int) = -1 := cmpI_lt (by omega)
    clear hv h1 h2 e1 e2 z1 z2
    go_enter Tryd.func39, Tryd.ntmps39
    go_wp2_with (go_at_call 43; refine (compare_int_c _ _ _).mono ?_; rintro e w' ⟨rfl, rfl⟩)
    go_ret
    exact ⟨rfl, Ext.refl _⟩
  · subst h
    exact cmp_same w a1 a2 n1 c1 c2 xs ys h1 h2 (by omega)
  · have hv : natVal ys < natVal xs := by
      have a := natVal_lt ys h2.lt
      have b := natVal_ge xs (by omega) (by rw [e1]; exact z1 (by omega))
      have c : 4294967296 ^ ys.length ≤ 4294967296 ^ (xs.length - 1) := Nat.pow_le_pow_right (by omega) (by omega)
      omega
    rw [cmpI_gt (by exact_mod_cast hv)]
    have hc : cmpI (n1 : Int) (n2 : Int) = 1 := cmpI_gt (by omega)
    clear hv h1 h2 e1 e2 z1 z2
    go_enter Tryd.func39, Tryd.ntmps39
    go_wp2_with (go_at_call 43; refine (compare_int_c _ _ _).mono ?_; rintro e w' ⟨rfl, rfl⟩)
    go_ret
    exact ⟨rfl, Ext.refl _⟩
end Go.Proofs.YtpflfagjkmeeiaaDoor
