/-
  cmp.Compare at int and uint32; the comparison of two naturals in package integer. At most 2^30 words each. A natural times a power of 2, in package integer. At most 2^29 words, a power of at most 2^30. A natural divided by a power of 2 less than 2^32, in package integer. At most 2^30 words.
-/
import Derived.Test.YtkeikfekkdplgaaGreatDoorBase
import Derived.Test.YtkeikfekkdplgaaGreatDoorAdd
namespace Go.Proofs.YtkeikfekkdplgaaGreatDoor
open Go Go.RowKit

/-- -1, 0 or 1. -/
def cmpI (a b : Int) : Int := if a < b then -1 else if b < a then 1 else 0
theorem cmpI_lt {a b : Int} (h : a < b) : cmpI a b = -1 := by simp [cmpI, h]
theorem cmpI_gt {a b : Int} (h : b < a) : cmpI a b = 1 := by have : ¬ a < b := by omega
                                                             simp [cmpI, h, this]
theorem cmpI_eq {a b : Int} (h : a = b) : cmpI a b = 0 := by subst h; simp [cmpI]
theorem ret_int {k : IntKind} {a b : Int} (h : a = b) : Ending.returned (.int k a) = .returned (.int k b) := by rw [h]

set_option maxHeartbeats 400000 in
theorem compare_int_c (a b : Int) (w : World) : Calls Tryz.prog 195 #[.int .i64 a, .int .i64 b] w (RSame w (.int .i64 (cmpI a b))) := by
  have hn : ∀ x : Int, (x != x) = false := fun x => by simp
  rcases Int.lt_trichotomy a b with h | h | h
  · rw [cmpI_lt h]
    go_enter Tryz.func195, Tryz.ntmps195
    go_wp2
    go_ret
    exact ⟨rfl, rfl⟩
  · rw [cmpI_eq h]
    subst h
    go_enter Tryz.func195, Tryz.ntmps195
    go_wp2
    go_ret
    exact ⟨rfl, rfl⟩
  · rw [cmpI_gt h]
    have h' : ¬ a < b := by omega
    go_enter Tryz.func195, Tryz.ntmps195
    go_wp2
    go_ret
    exact ⟨rfl, rfl⟩
set_option maxHeartbeats 400000 in
theorem compare_u32_c (a b : Int) (w : World) : Calls Tryz.prog 223 #[.int .u32 a, .int .u32 b] w (RSame w (.int .i64 (cmpI a b))) := by
  have hn : ∀ x : Int, (x != x) = false := fun x => by simp
  rcases Int.lt_trichotomy a b with h | h | h
  · rw [cmpI_lt h]
    go_enter Tryz.func223, Tryz.ntmps223
    go_wp2
    go_ret
    exact ⟨rfl, rfl⟩
  · rw [cmpI_eq h]
    subst h
    go_enter Tryz.func223, Tryz.ntmps223
    go_wp2
    go_ret
    exact ⟨rfl, rfl⟩
  · rw [cmpI_gt h]
    have h' : ¬ a < b := by omega
    go_enter Tryz.func223, Tryz.ntmps223
    go_wp2
    go_ret
    exact ⟨rfl, rfl⟩

theorem pv_lt_of (xs ys : List Nat) (hx : ∀ i, xs.getD i 0 < 4294967296) (k : Nat) (h : xs.getD k 0 < ys.getD k 0) : ∀ m, k < m → (∀ i, k < i → xs.getD i 0 = ys.getD i 0) → pv xs m < pv ys m := by
  intro m
  induction m with
  | zero => intro h; omega
  | succ m ih =>
    intro hm he
    rw [pv, pv]
    rcases Nat.lt_or_ge k m with h1 | h1
    · have := ih h1 he
      rw [he m h1]; omega
    · obtain rfl : m = k := by omega
      have h2 := pv_lt xs hx m
      have h3 : 4294967296 ^ m * (xs.getD m 0 + 1) ≤ 4294967296 ^ m * ys.getD m 0 := Nat.mul_le_mul_left _ h
      rw [Nat.mul_add, Nat.mul_one] at h3
      omega

/-- What the loop of cmp keeps: from place k on the words are the same. -/
def SameFrom (A B : List Nat) (k : Nat) : Prop := ∀ i, k ≤ i → A.getD i 0 = B.getD i 0
theorem SameFrom.step {A B : List Nat} {k : Nat} (h : SameFrom A B (k + 1)) (he : A.getD k 0 = B.getD k 0) : SameFrom A B k := fun i hi => by
  rcases Nat.lt_or_ge k i with h1 | h1
  · exact h i h1
  · obtain rfl : i = k := by omega
    exact he
theorem SameFrom.lt {A B : List Nat} {k n : Nat} (h : SameFrom A B (k + 1)) (hA : ∀ i, A.getD i 0 < 4294967296) (hk : k < n) (ha : A.length = n) (hb : B.length = n) (hlt : A.getD k 0 < B.getD k 0) : natVal A < natVal B := by
  have := pv_lt_of A B hA k hlt n hk (fun i hi => h i hi)
  rwa [pv_all A n (Nat.le_of_eq ha), pv_all B n (Nat.le_of_eq hb)] at this
theorem SameFrom.symm {A B : List Nat} {k : Nat} (h : SameFrom A B k) : SameFrom B A k := fun i hi => (h i hi).symm
theorem SameFrom.eq {A B : List Nat} {n : Nat} (h : SameFrom A B 0) (ha : A.length = n) (hb : B.length = n) : natVal A = natVal B := by
  have := pv_congr (k := n) (fun i _ => h i (Nat.zero_le _))
  rwa [pv_all A n (Nat.le_of_eq ha), pv_all B n (Nat.le_of_eq hb)] at this

set_option maxRecDepth 100000 in
set_option maxHeartbeats 1000000 in
theorem cmp_same (w : World) (a1 a2 : Option Addr) (n c1 c2 : Nat) (A B : List Nat) (h1 : Wd w a1 n c1 A) (h2 : Wd w a2 n c2 B) (s1 : n ≤ 1073741824) :
    Calls Tryz.prog 192 #[.slice a1 n c1, .slice a2 n c2] w (RVal w (.int .i64 (cmpI (natVal A) (natVal B)))) := by
  have HA := hid h1.lt
  have HB := hid h2.lt
  have HlA := hid h1.len
  have HlB := hid h2.len
  have HW1 := hid h1
  have HW2 := hid h2
  have sh1 := h1.shape
  have sh2 := h2.shape
  clear h1 h2
  have h00 : cmpI (n : Int) (n : Int) = 0 := cmpI_eq rfl
  rcases sh1 with sh1 | ⟨b1, off1, rfl, hb1⟩ <;> rcases sh2 with sh2 | ⟨b2, off2, rfl, hb2⟩
  all_goals
    go_enter Tryz.func192, Tryz.ntmps192
    go_wp2_with (go_at_call 195; refine (compare_int_c _ _ _).mono ?_; rintro e w' ⟨rfl, rfl⟩)
    clear h00
    go_loopw [6] (fun i wr => ∃ z : Int, -1 ≤ z ∧ z < n ∧ i = .int .i64 z ∧ Hid (SameFrom A B (z + 1).toNat) ∧ Ext w wr) (fun i _ => (intOf i + 1).toNat)
    case atStart => exact ⟨(n : Int) - 1, by omega, by omega, rfl, fun i hi => by rw [getD_big _ _ (by rw [HlA.out]; omega), getD_big _ _ (by rw [HlB.out]; omega)], Ext.refl _⟩
    case round =>
      obtain ⟨z, hz1, hz2, rfl, hsame, hext⟩ := hrel
      by_cases hz0 : 0 ≤ z
      · obtain ⟨j, rfl⟩ := Int.eq_ofNat_of_zero_le hz0
        first
          | (exfalso; omega)
          | (have c1 := (HW1.out.ext hext).cell j (by omega)
             have c2 := (HW2.out.ext hext).cell j (by omega)
             have hsame' : SameFrom A B (j + 1) := hsame.out
             have HC : ∀ x y : Nat, A.getD j 0 = x → B.getD j 0 = y → (x < y → natVal A < natVal B) ∧ (y < x → natVal B < natVal A) ∧ (x = y → SameFrom A B j) := fun x y hx hy =>
               ⟨fun h => hsame'.lt HA.out (by omega) HlA.out HlB.out (by rw [hx, hy]; exact h), fun h => hsame'.symm.lt HB.out (by omega) HlB.out HlA.out (by rw [hx, hy]; exact h), fun h => hsame'.step (by rw [hx, hy]; exact h)⟩
             have HC := hid (HC _ _ rfl rfl)
             clear hsame hsame'
             generalize A.getD j 0 = x at c1 HC
             generalize B.getD j 0 = y at c2 HC
             go_wp2_with fail
             go_quiet ((go_at_call 223; exact quiet_same (compare_u32_c _ _ _)))
             rcases Nat.lt_trichotomy x y with h | h | h
             · have hv : cmpI (x : Int) (y : Int) = -1 := cmpI_lt (by omega)
               rw [hv]
               have hg := hid (HC.out.1 h)
               clear hv
               go_wp2_with fail
               go_ret
               exact ⟨ret_int (by rw [cmpI_lt (by exact_mod_cast hg.out)]), hext.drewN _⟩
             · have hv : cmpI (x : Int) (y : Int) = 0 := cmpI_eq (by omega)
               rw [hv]
               have hg := hid (HC.out.2.2 h)
               clear hv h
               go_wp2_with fail
               go_roundw
               case rel => exact ⟨(j : Int) - 1, by omega, by omega, rfl, by rw [show ((j : Int) - 1 + 1).toNat = j from by omega]; exact hg, hext.drewN _⟩
               case measure => simp [intOf]
             · have hv : cmpI (x : Int) (y : Int) = 1 := cmpI_gt (by omega)
               rw [hv]
               have hg := hid (HC.out.2.1 h)
               clear hv
               go_wp2_with fail
               go_ret
               exact ⟨ret_int (by rw [cmpI_gt (by exact_mod_cast hg.out)]), hext.drewN _⟩)
      · obtain rfl : z = -1 := by omega
        have hv : SameFrom A B 0 := hsame.out
        have hg := hid (hv.eq HlA.out HlB.out)
        clear hv hsame
        go_wp2_with fail
        go_ret
        exact ⟨ret_int (cmpI_eq (congrArg (fun n : Nat => (n : Int)) hg.out)).symm, hext⟩

theorem cmp_c (w : World) (a1 a2 : Option Addr) (n1 n2 c1 c2 k1 k2 x y : Nat) (h1 : NatAt w k1 a1 n1 c1 x) (h2 : NatAt w k2 a2 n2 c2 y) (s1 : k1 ≤ 1073741824) :
    Calls Tryz.prog 192 #[.slice a1 n1 c1, .slice a2 n2 c2] w (RVal w (.int .i64 (cmpI x y))) := by
  obtain ⟨xs, h1, l1, z1, rfl⟩ := h1
  obtain ⟨ys, h2, l2, z2, rfl⟩ := h2
  have e1 := h1.len
  have e2 := h2.len
  rcases Nat.lt_trichotomy n1 n2 with h | h | h
  · have hv : natVal xs < natVal ys := by
      have a := natVal_lt xs h1.lt
      have b := natVal_ge ys (by omega) (by rw [e2]; exact z2 (by omega))
      have c : 4294967296 ^ xs.length ≤ 4294967296 ^ (ys.length - 1) := Nat.pow_le_pow_right (by omega) (by omega)
      omega
    rw [cmpI_lt (by exact_mod_cast hv)]
    have hc : cmpI (n1 : Int) (n2 : Int) = -1 := cmpI_lt (by omega)
    clear hv h1 h2 e1 e2 z1 z2
    go_enter Tryz.func192, Tryz.ntmps192
    go_wp2_with (go_at_call 195; refine (compare_int_c _ _ _).mono ?_; rintro e w' ⟨rfl, rfl⟩)
    go_ret
    exact ⟨rfl, Ext.refl _⟩
  · subst h
    exact cmp_same w a1 a2 n1 c1 c2 xs ys h1 h2 (by omega)
  · have hv : natVal ys < natVal xs := by
      have a := natVal_lt ys h2.lt
      have b := natVal_ge xs (by omega) (by rw [e1]; exact z1 (by omega))
      have c : 4294967296 ^ ys.length ≤ 4294967296 ^ (xs.length - 1) := Nat.pow_le_pow_right (by omega) (by omega)
      omega
    rw [cmpI_gt (by exact_mod_cast hv)]
    have hc : cmpI (n1 : Int) (n2 : Int) = 1 := cmpI_gt (by omega)
    clear hv h1 h2 e1 e2 z1 z2
    go_enter Tryz.func192, Tryz.ntmps192
    go_wp2_with (go_at_call 195; refine (compare_int_c _ _ _).mono ?_; rintro e w' ⟨rfl, rfl⟩)
    go_ret
    exact ⟨rfl, Ext.refl _⟩
end Go.Proofs.YtkeikfekkdplgaaGreatDoor
namespace Go.Proofs.YtkeikfekkdplgaaGreatDoor
open Go Go.RowKit

/-- What the loop of shl keeps: the row stands for v; its word i + q is less than R, and those behind it are 0. -/
def ShlInv (w0 : World) (g N q R v i : Nat) (wr : World) : Prop :=
  ∃ ys, Own wr g ys ∧ ys.length = N ∧ (∀ j, ys.getD j 0 < 4294967296) ∧ natVal ys = v ∧ (∀ j, i + q < j → ys.getD j 0 = 0) ∧ ys.getD (i + q) 0 < R ∧ Ext w0 wr

theorem pow32 (r : Nat) (h : r ≤ 32) : ∃ c, 4294967296 = c * 2 ^ r := ⟨2 ^ (32 - r), by rw [← Nat.pow_add, show 32 - r + r = 32 from by omega]⟩
theorem mod_mul (x R : Nat) (h : ∃ c, 4294967296 = c * R) : (x * R % 4294967296) % R = 0 := by
  obtain ⟨c, hc⟩ := h
  rw [hc, Nat.mul_mod_mul_right]
  exact Nat.mul_mod_left _ _
theorem shl_word (x r o : Nat) (hr : r < 32) (ho : o < 2 ^ r) : o ||| (x * 2 ^ r % 4294967296) = o + x * 2 ^ r % 4294967296 ∧ o + x * 2 ^ r % 4294967296 < 4294967296 := by
  have hm := mod_mul x (2 ^ r) (pow32 r (by omega))
  refine ⟨by rw [Nat.or_comm, nat_join r _ _ hm ho, Nat.add_comm], ?_⟩
  obtain ⟨c, hc⟩ := pow32 r (by omega)
  have hlt : x * 2 ^ r % 4294967296 < 4294967296 := Nat.mod_lt _ (by omega)
  obtain ⟨d, hd⟩ : ∃ d, x * 2 ^ r % 4294967296 = d * 2 ^ r := by
    have := Nat.div_add_mod (x * 2 ^ r % 4294967296) (2 ^ r)
    rw [hm, Nat.add_zero, Nat.mul_comm] at this
    exact ⟨_, this.symm⟩
  rw [hd] at hlt ⊢
  have h1 : d < c := by
    rw [hc] at hlt
    exact Nat.lt_of_mul_lt_mul_right hlt
  have h2 : (d + 1) * 2 ^ r ≤ c * 2 ^ r := Nat.mul_le_mul_right _ h1
  rw [Nat.add_mul, Nat.one_mul] at h2
  omega
theorem shl_top (x r : Nat) (hr : r < 32) (hx : x < 4294967296) : x * 2 ^ r / 4294967296 < 2 ^ r ∧ x * 2 ^ r < 9223372036854775808 ∧ 2 ^ r ≤ 2147483648 := by
  have h2 : 2 ^ r ≤ 2 ^ 31 := Nat.pow_le_pow_right (by omega) (by omega)
  refine ⟨?_, ?_, by omega⟩
  · rw [Nat.div_lt_iff_lt_mul (by omega), Nat.mul_comm (2 ^ r)]
    exact Nat.mul_lt_mul_of_pos_right hx (Nat.pos_of_ne_zero (by simp))
  · have := Nat.mul_le_mul (show x ≤ 4294967295 by omega) h2
    omega
theorem shl_next (v i q R x o t P : Nat) (A : List Nat) (hx : A.getD i 0 = x) (hv : v = P * pv A i) (hP : P = 4294967296 ^ q * R) (ht : t = x * R) :
    v + 4294967296 ^ (i + q) * (o + t % 4294967296) + 4294967296 ^ (i + q + 1) * (t / 4294967296) = P * pv A (i + 1) + 4294967296 ^ (i + q) * o := by
  have h : 4294967296 * (t / 4294967296) + t % 4294967296 = t := by omega
  generalize t / 4294967296 = a at *
  generalize t % 4294967296 = b at *
  rw [pv, hx, hv, hP, Nat.pow_add, Nat.pow_succ, Nat.pow_add]
  have h2 : 4294967296 ^ i * 4294967296 ^ q * (4294967296 * a + b) = 4294967296 ^ i * 4294967296 ^ q * (x * R) := by rw [h, ht]
  grind

theorem ShlInv.start {w0 wr : World} {g n q R : Nat} (h : Own wr g (List.replicate n 0)) (he : Ext w0 wr) (hR : 0 < R) : ShlInv w0 g n q R 0 0 wr :=
  ⟨_, h, by simp, fun i => by rw [getD_zeros]; omega, natVal_zeros n, fun i _ => getD_zeros _ _, by rw [getD_zeros]; exact hR, he⟩
theorem ShlInv.fin {w0 wr : World} {g N q R v i : Nat} (h : ShlInv w0 g N q R v i wr) (hN : N ≤ 140737488355328) :
    ∃ ys, Wd wr (some ⟨g, 0, none⟩) N N ys ∧ natVal ys = v ∧ Ext w0 wr := by
  obtain ⟨ys, h1, h2, h3, h4, h5, h6, h7⟩ := h
  have hw := h1.wd h3 N (Nat.le_of_eq h2) hN
  rw [h2] at hw
  exact ⟨ys, hw, h4, h7⟩
theorem ShlInv.step {w0 wr : World} {g N q r v i P : Nat} {A : List Nat} (h : ShlInv w0 g N q (2 ^ r) v i wr) (hN : i + q + 1 < N) (hr : r < 32) (hx : A.getD i 0 < 4294967296) (hg : w0.heap.size ≤ g)
    (hv : v = P * pv A i) (hP : P = 4294967296 ^ q * 2 ^ r) :
    ∃ o, wr.cell? ⟨g, i + q, none⟩ = some (.int .u32 (o : Nat)) ∧ o < 4294967296 ∧ wr.frozen? ⟨g, i + q, none⟩ = false ∧ wr.cell? ⟨g, i + q + 1, none⟩ = some (.int .u32 (0 : Nat)) ∧ wr.frozen? ⟨g, i + q + 1, none⟩ = false ∧ Ext w0 wr ∧
      o ||| (A.getD i 0 * 2 ^ r % 4294967296) = o + A.getD i 0 * 2 ^ r % 4294967296 ∧
      ShlInv w0 g N q (2 ^ r) (P * pv A (i + 1)) (i + 1) ((wr.setCell ⟨g, i + q, none⟩ (.int .u32 ((o + A.getD i 0 * 2 ^ r % 4294967296 : Nat) : Int))).setCell ⟨g, i + q + 1, none⟩ (.int .u32 ((A.getD i 0 * 2 ^ r / 4294967296 : Nat) : Int))) := by
  obtain ⟨ys, h1, h2, h3, h4, h5, h6, h7⟩ := h
  obtain ⟨w1, w2⟩ := shl_word (A.getD i 0) r _ hr h6
  obtain ⟨t1, t2, t3⟩ := shl_top (A.getD i 0) r hr hx
  have z1 := h5 (i + q + 1) (by omega)
  refine ⟨ys.getD (i + q) 0, h1.cell _ (by omega), h3 _, h1.free _, by rw [h1.cell _ (by omega), z1], h1.free _, h7, w1, ?_⟩
  refine ⟨_, (h1.set _ _).set _ _, by simpa using h2, fun j => ?_, ?_, fun j hj => ?_, ?_, (h7.set hg _).set hg _⟩
  · rw [getD_set _ _ _ _ (by simp; omega), getD_set _ _ _ _ (by omega)]
    split
    · omega
    · split
      · exact w2
      · exact h3 j
  · have e1 := natVal_set ys (i + q) (ys.getD (i + q) 0 + A.getD i 0 * 2 ^ r % 4294967296) (by omega)
    have e2 := natVal_set (ys.set (i + q) (ys.getD (i + q) 0 + A.getD i 0 * 2 ^ r % 4294967296)) (i + q + 1) (A.getD i 0 * 2 ^ r / 4294967296) (by simp; omega)
    rw [getD_set _ _ _ _ (by omega), if_neg (by omega), z1, Nat.mul_zero, Nat.add_zero] at e2
    have e3 := shl_next v i q (2 ^ r) _ (ys.getD (i + q) 0) _ P A rfl hv hP rfl
    rw [h4] at e1
    rw [e2]
    generalize 4294967296 ^ (i + q) * ys.getD (i + q) 0 = a at *
    generalize 4294967296 ^ (i + q) * (ys.getD (i + q) 0 + A.getD i 0 * 2 ^ r % 4294967296) = b at *
    generalize 4294967296 ^ (i + q + 1) * (A.getD i 0 * 2 ^ r / 4294967296) = c at *
    omega
  · rw [getD_set _ _ _ _ (by simp; omega), if_neg (by omega), getD_set _ _ _ _ (by omega), if_neg (by omega)]
    exact h5 j (by omega)
  · rw [show i + 1 + q = i + q + 1 from by omega, getD_set _ _ _ _ (by simp; omega), if_pos rfl]
    exact t1

set_option maxRecDepth 100000 in
set_option maxHeartbeats 1000000 in
theorem shl_wd (w : World) (a1 : Option Addr) (n1 c1 s : Nat) (A : List Nat) (h1 : Wd w a1 n1 c1 A) (s1 : n1 ≤ 536870912) (s2 : s ≤ 1073741824) :
    Calls Tryz.prog 238 #[.slice a1 n1 c1, .int .i64 s] w (RNat w (n1 + s / 32 + 1) (2 ^ s * natVal A)) := by
  have HA := hid h1.lt
  have HlA := hid h1.len
  have HW1 := hid h1
  have sh1 := h1.shape
  have HP : Hid (2 ^ s = 4294967296 ^ (s / 32) * 2 ^ (s % 32)) := by
    show _ = _
    rw [show (4294967296 : Nat) = 2 ^ 32 from rfl, ← Nat.pow_mul, ← Nat.pow_add, Nat.div_add_mod]
  clear h1
  rcases sh1 with sh1 | ⟨b1, off1, rfl, hb1⟩
  all_goals
    go_enter Tryz.func238, Tryz.ntmps238
    go_wp2_with (at_make; refine wpl_make rfl _ _ _ rfl Tryz.underlying240 _ _ (n1 + s / 32 + 1) rfl rfl (by omega) (by omega) (by omega) ?_; intro w1 e1 z1 o1)
    have I0 := hid (ShlInv.start (q := s / 32) (R := 2 ^ (s % 32)) o1 e1 (Nat.pos_of_ne_zero (by simp)))
    clear o1 e1 z1
    go_loopw [18] (fun i wr => ∃ k : Nat, k ≤ n1 ∧ i = .int .i64 k ∧ Hid (ShlInv w w.heap.size (n1 + s / 32 + 1) (s / 32) (2 ^ (s % 32)) (2 ^ s * pv A k) k wr)) (fun i _ => n1 - (intOf i).toNat)
    case atStart => exact ⟨0, by omega, rfl, I0⟩
    case round =>
      clear I0
      obtain ⟨i, hi, rfl, hinv⟩ := hrel
      by_cases hi1 : i < n1
      · first
          | (exfalso; omega)
          | (obtain ⟨o, hc1, ho, hf1, hc2, hf2, hext, hor, hst⟩ := hinv.out.step (by omega) (Nat.mod_lt _ (by omega)) (HA.out i) (Nat.le_refl _) rfl HP.out
             have hcA := (HW1.out.ext hext).cell i hi1
             have hxl := HA.out i
             have Hst := hid hst
             clear hst hinv
             generalize A.getD i 0 = x at *
             obtain ⟨t1, t2, t3⟩ := shl_top x (s % 32) (Nat.mod_lt _ (by omega)) hxl
             have hb := u32_or_nat o (x * 2 ^ (s % 32) % 4294967296) ho (by omega)
             rw [hor] at hb
             have ht : IntKind.u64.wrap ((x : Int) * 2 ^ (s % 32)) = ((x * 2 ^ (s % 32) : Nat) : Int) := by
               have e : (x : Int) * 2 ^ (s % 32) = ((x * 2 ^ (s % 32) : Nat) : Int) := by rw [Int.natCast_mul, Int.natCast_pow]; rfl
               rw [IntKind.wrap_u64, e]
               clear hor t1 t3 hb
               generalize x * 2 ^ (s % 32) = t at *
               omega
             clear hor t1 t3
             generalize x * 2 ^ (s % 32) = t at *
             have hb2 : bits .or .u32 (o : Int) ((t : Int) % 4294967296) = ((o + t % 4294967296 : Nat) : Int) := by rw [← hb]; simp
             have ht2 : (t : Int) / 4294967296 % 4294967296 = ((t / 4294967296 : Nat) : Int) := by omega
             clear hb
             go_wp2_with fail
             go_roundw
             case rel => exact ⟨i + 1, by omega, by go_num, Hst⟩
             case measure => simp [intOf]; omega)
      · obtain rfl : i = n1 := by omega
        obtain ⟨zs, hz1, hz2, hz3⟩ := hinv.out.fin (by omega)
        have hz2 := hid (hz2.trans (by rw [pv_all A _ (Nat.le_of_eq HlA.out)]))
        clear hinv
        go_wp2_with (go_at_call 178; refine (trim_c _ _ _ _ _ hz1).mono ?_; rintro e w3 ⟨ao, n, cap, rfl, he, hn⟩)
        go_ret
        exact ⟨ao, n, cap, rfl, hz3.trans he, hz2.out ▸ hn⟩

theorem shl_c (w : World) (a1 : Option Addr) (n1 c1 s k1 x : Nat) (h1 : NatAt w k1 a1 n1 c1 x) (s1 : k1 ≤ 536870912) (s2 : s ≤ 1073741824) :
    Calls Tryz.prog 238 #[.slice a1 n1 c1, .int .i64 s] w (RNat w (k1 + s / 32 + 1) (x * 2 ^ s)) := by
  obtain ⟨xs, h1, l1, _, rfl⟩ := h1
  refine (shl_wd w a1 n1 c1 s xs h1 (by omega) s2).mono ?_
  rintro e w' ⟨ao, n, cap, he, hx, hn⟩
  rw [Nat.mul_comm]
  exact ⟨ao, n, cap, he, hx, hn.mono (by omega)⟩
end Go.Proofs.YtkeikfekkdplgaaGreatDoor
namespace Go.Proofs.YtkeikfekkdplgaaGreatDoor
open Go Go.RowKit

theorem shr_word (x y R c : Nat) (hx : x < 4294967296) (hR : 0 < R) (hc : 4294967296 = c * R) :
    R * ((x + 4294967296 * y) / R % 4294967296) + x % R = x + 4294967296 * (y % R) := by
  have h1 : (x + 4294967296 * y) / R = x / R + c * y := by
    rw [hc, show c * R * y = R * (c * y) from by grind, Nat.add_mul_div_left _ _ hR]
  have h2 : x / R < c := by
    rw [Nat.div_lt_iff_lt_mul hR, ← hc]; exact hx
  have h3 : (x / R + c * y) % 4294967296 = x / R + c * (y % R) := by
    rw [hc, Nat.mod_mul, Nat.add_mul_mod_self_left, Nat.mod_eq_of_lt h2, Nat.add_mul_div_left _ _ (Nat.zero_lt_of_lt h2), Nat.div_eq_of_lt h2, Nat.zero_add]
  rw [h1, h3, Nat.mul_add]
  have h4 := Nat.div_add_mod x R
  have h5 : 4294967296 * (y % R) = R * (c * (y % R)) := by rw [hc]; grind
  rw [h5]
  omega

/-- What the loop of shr keeps: k words are done. -/
def ShrInv (w0 : World) (g N R : Nat) (A : List Nat) (k : Nat) (wr : World) : Prop :=
  ∃ ys, Own wr g ys ∧ ys.length = N ∧ (∀ i, ys.getD i 0 < 4294967296) ∧ R * pv ys k + A.getD 0 0 % R = pv A k + 4294967296 ^ k * (A.getD k 0 % R) ∧ Ext w0 wr

theorem ShrInv.start {w0 wr : World} {g n R : Nat} {A : List Nat} (h : Own wr g (List.replicate n 0)) (he : Ext w0 wr) : ShrInv w0 g n R A 0 wr :=
  ⟨_, h, by simp, fun i => by rw [getD_zeros]; omega, by simp [pv], he⟩
theorem ShrInv.fin {w0 wr : World} {g N R : Nat} {A : List Nat} (h : ShrInv w0 g N R A N wr) (hN : N ≤ 140737488355328) (hl : A.length = N) (hR : 0 < R) :
    ∃ ys, Wd wr (some ⟨g, 0, none⟩) N N ys ∧ natVal ys = natVal A / R ∧ Ext w0 wr := by
  obtain ⟨ys, h1, h2, h3, h4, h7⟩ := h
  have hw := h1.wd h3 N (Nat.le_of_eq h2) hN
  rw [h2] at hw
  refine ⟨ys, hw, ?_, h7⟩
  rw [pv_all ys _ (Nat.le_of_eq h2), pv_all A _ (Nat.le_of_eq hl), getD_big A N (Nat.le_of_eq hl), Nat.zero_mod, Nat.mul_zero, Nat.add_zero] at h4
  rw [← h4, Nat.mul_add_div hR, Nat.div_eq_of_lt (Nat.mod_lt _ hR), Nat.add_zero]
theorem ShrInv.step {w0 wr : World} {g N R c k : Nat} {A : List Nat} (h : ShrInv w0 g N R A k wr) (hk : k < N) (hg : w0.heap.size ≤ g) (hA : ∀ i, A.getD i 0 < 4294967296) (hR : 0 < R) (hc : 4294967296 = c * R) :
    wr.frozen? ⟨g, k, none⟩ = false ∧ (∃ o : Nat, wr.cell? ⟨g, k, none⟩ = some (.int .u32 o)) ∧ Ext w0 wr ∧
      ShrInv w0 g N R A (k + 1) (wr.setCell ⟨g, k, none⟩ (.int .u32 (((A.getD k 0 + 4294967296 * A.getD (k + 1) 0) / R % 4294967296 : Nat) : Int))) := by
  obtain ⟨ys, h1, h2, h3, h4, h7⟩ := h
  refine ⟨h1.free _, ⟨_, h1.cell _ (by omega)⟩, h7, ?_⟩
  refine ⟨_, h1.set _ _, by simpa using h2, fun j => ?_, ?_, h7.set hg _⟩
  · rw [getD_set _ _ _ _ (by omega)]; split
    · exact Nat.mod_lt _ (by omega)
    · exact h3 j
  · have e := shr_word (A.getD k 0) (A.getD (k + 1) 0) R c (hA k) hR hc
    rw [pv, pv, pv_set _ _ _ (by omega), getD_set _ _ _ _ (by omega), if_pos rfl]
    generalize (A.getD k 0 + 4294967296 * A.getD (k + 1) 0) / R % 4294967296 = q at *
    have e2 : 4294967296 ^ k * (R * q + A.getD k 0 % R) = 4294967296 ^ k * (A.getD k 0 + 4294967296 * (A.getD (k + 1) 0 % R)) := by rw [e]
    generalize A.getD k 0 % R = a at *
    generalize A.getD (k + 1) 0 % R = b at *
    rw [Nat.pow_succ]
    grind

set_option maxRecDepth 100000 in
set_option maxHeartbeats 1000000 in
theorem shr_wd (w : World) (a1 : Option Addr) (n1 c1 s : Nat) (A : List Nat) (h1 : Wd w a1 n1 c1 A) (s1 : n1 ≤ 1073741824) (s2 : s < 32) :
    Calls Tryz.prog 239 #[.slice a1 n1 c1, .int .i64 s] w (RNat w n1 (natVal A / 2 ^ s)) := by
  have HA := hid h1.lt
  have HlA := hid h1.len
  have HW1 := hid h1
  have sh1 := h1.shape
  obtain ⟨c, hc⟩ : ∃ c, 4294967296 = c * 2 ^ s := ⟨2 ^ (32 - s), by rw [← Nat.pow_add, show 32 - s + s = 32 from by omega]⟩
  have Hc := hid hc
  have hpos : 0 < 2 ^ s := Nat.pos_of_ne_zero (by simp)
  clear h1 hc
  rcases sh1 with sh1 | ⟨b1, off1, rfl, hb1⟩
  all_goals
    go_enter Tryz.func239, Tryz.ntmps239
    go_wp2_with (at_make; refine wpl_make rfl _ _ _ rfl Tryz.underlying240 _ _ n1 rfl rfl (by omega) (by omega) (by omega) ?_; intro w1 e1 z1 o1)
    have I0 := hid (ShrInv.start (R := 2 ^ s) (A := A) o1 e1)
    clear o1 e1 z1
    go_loopw [13] (fun i wr => ∃ k : Nat, k ≤ n1 ∧ i = .int .i64 k ∧ Hid (ShrInv w w.heap.size n1 (2 ^ s) A k wr)) (fun i _ => n1 - (intOf i).toNat)
    case atStart => exact ⟨0, by omega, rfl, I0⟩
    case round =>
      clear I0
      obtain ⟨i, hi, rfl, hinv⟩ := hrel
      by_cases hi1 : i < n1
      · first
          | (exfalso; omega)
          | (obtain ⟨hf1, ⟨o, hc1⟩, hext, hst⟩ := hinv.out.step hi1 (Nat.le_refl _) HA.out hpos Hc.out
             have hcA := (HW1.out.ext hext).cell i hi1
             have hcB := fun h => (HW1.out.ext hext).cell (i + 1) h
             have hxl := HA.out i
             have hyl := HA.out (i + 1)
             have hy0 : n1 ≤ i + 1 → A.getD (i + 1) 0 = 0 := fun h => getD_big _ _ (by rw [HlA.out]; exact h)
             have Hst := hid hst
             clear hst hinv
             generalize A.getD i 0 = x at *
             generalize A.getD (i + 1) 0 = y at *
             by_cases hi2 : i + 1 < n1
             · have hcB := hcB hi2
               clear hy0
               have hor : bits .or .u64 (x : Int) ((y : Int) * 4294967296) = ((x + 4294967296 * y : Nat) : Int) := by
                 have := u64_or_nat x (y * 4294967296) (by omega) (by omega)
                 rw [Nat.or_comm, nat_join 32 _ _ (by omega) (by omega)] at this
                 simp only [Int.natCast_mul] at this
                 rw [show ((4294967296 : Nat) : Int) = 4294967296 from rfl] at this
                 rw [this]; omega
               go_wp2_with fail
               go_roundw
               case rel => exact ⟨i + 1, by omega, by go_num, by simpa using Hst⟩
               case measure => simp [intOf]; omega
             · have hy0 := hy0 (by omega)
               subst hy0
               clear hcB
               go_wp2_with fail
               go_roundw
               case rel => exact ⟨i + 1, by omega, by go_num, by simpa using Hst⟩
               case measure => simp [intOf]; omega)
      · obtain rfl : i = n1 := by omega
        obtain ⟨zs, hz1, hz2, hz3⟩ := hinv.out.fin (by omega) HlA.out hpos
        have hz2 := hid hz2
        clear hinv
        go_wp2_with (go_at_call 178; refine (trim_c _ _ _ _ _ hz1).mono ?_; rintro e w3 ⟨ao, n, cap, rfl, he, hn⟩)
        go_ret
        exact ⟨ao, n, cap, rfl, hz3.trans he, hz2.out ▸ hn⟩

theorem shr_c (w : World) (a1 : Option Addr) (n1 c1 s k1 x : Nat) (h1 : NatAt w k1 a1 n1 c1 x) (s1 : k1 ≤ 1073741824) (s2 : s < 32) :
    Calls Tryz.prog 239 #[.slice a1 n1 c1, .int .i64 s] w (RNat w k1 (x / 2 ^ s)) := by
  obtain ⟨xs, h1, l1, _, rfl⟩ := h1
  refine (shr_wd w a1 n1 c1 s xs h1 (by omega) s2).mono ?_
  rintro e w' ⟨ao, n, cap, he, hx, hn⟩
  exact ⟨ao, n, cap, he, hx, hn.mono (by omega)⟩
end Go.Proofs.YtkeikfekkdplgaaGreatDoor
