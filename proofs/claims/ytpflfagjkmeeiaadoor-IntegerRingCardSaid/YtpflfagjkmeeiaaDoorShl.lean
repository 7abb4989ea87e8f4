/-
  A natural times a power of 2, in package integer. At most 2^29 words, a power of at most 2^30.
-/
import Derived.Test.YtpflfagjkmeeiaaDoorOwn
import Derived.Test.YtpflfagjkmeeiaaDoorNatMath
import Derived.Test.YtpflfagjkmeeiaaDoorTrim
namespace Go.Proofs.YtpflfagjkmeeiaaDoor
open Go Go.RowKit

/-- What the loop of shl keeps: the row stands for v; its word i + q is less than R, and those behind it are 0. -/
def ShlInv (w0 : World) (g N q R v i : Nat) (wr : World) : Prop :=
  ∃ ys, Own wr g ys ∧ ys.length = N ∧ (∀ j, ys.getD j 0 < 4294967296) ∧ natVal ys = v ∧ (∀ j, i + q < j → ys.getD j 0 = 0) ∧ ys.getD (i + q) 0 < R ∧ Ext w0 wr

theorem pow32 (r : Nat) (h : r ≤ 32) : ∃ c, 4294967296 = c * 2 ^ r := ⟨2 ^ (32 - r), by rw [← Nat.pow_add, show 32 - r + r = 32 from by omega]⟩
theorem mod_mul (x R : Nat) (h : ∃ c, 4294967296 = c * R) : (x * R % 4294967296) % R = 0 := by
  obtain ⟨c, hc⟩ := h
  rw [hc, Nat.mul_mod_mul_right]
  exact Nat.mul_mod_left _ _
theorem shl_word (x r o : Nat) (hr : r < 32) (ho : o < 2 ^ r) : o ||| (x * 2 ^ r % 4294967296) = o + x * 2 ^ r % 4294967296 ∧ o + x * 2 ^ r % 4294967296 < 4294967296 := by
  have hm := mod_mul x (2 ^ r) (pow32 r (by omega))
  refine ⟨by rw [Nat.or_comm, nat_join r _ _ hm ho, Nat.add_comm], ?_⟩
  obtain ⟨c, hc⟩ := pow32 r (by omega)
  have hlt : x * 2 ^ r % 4294967296 < 4294967296 := Nat.mod_lt _ (by omega)
  obtain ⟨d, hd⟩ : ∃ d, x * 2 ^ r % 4294967296 = d * 2 ^ r := by
    have := Nat.div_add_mod (x * 2 ^ r % 4294967296) (2 ^ r)
    rw [hm, Nat.add_zero, Nat.mul_comm] at this
    exact ⟨_, this.symm⟩
  rw [hd] at hlt ⊢
  have h1 : d < c := by
    rw [hc] at hlt
    exact Nat.lt_of_mul_lt_mul_right hlt
  have h2 : (d + 1) * 2 ^ r ≤ c * 2 ^ r := Nat.mul_le_mul_right _ h1
  rw [Nat.add_mul, Nat.one_mul] at h2
  omega
theorem shl_top (x r : Nat) (hr : r < 32) (hx : x < 4294967296) : x * 2 ^ r / 4294967296 < 2 ^ r ∧ x * 2 ^ r < 9223372036854775808 ∧ 2 ^ r ≤ 2147483648 := by
  have h2 : 2 ^ r ≤ 2 ^ 31 := Nat.pow_le_pow_right (by omega) (by omega)
  refine ⟨?_, ?_, by omega⟩
  · rw [Nat.div_lt_iff_lt_mul (by omega), Nat.mul_comm (2 ^ r)]
    exact Nat.mul_lt_mul_of_pos_right hx (Nat.pos_of_ne_zero (by simp))
  · have := Nat.mul_le_mul (show x ≤ 4294967295 by omega) h2
    omega
theorem shl_next (v i q R x o t P : Nat) (A : List Nat) (hx : A.getD i 0 = x) (hv : v = P * pv A i) (hP : P = 4294967296 ^ q * R) (ht : t = x * R) :
    v + 4294967296 ^ (i + q) * (o + t % 4294967296) + 4294967296 ^ (i + q + 1) * (t / 4294967296) = P * pv A (i + 1) + 4294967296 ^ (i + q) * o := by
  have h : 4294967296 * (t / 4294967296) + t % 4294967296 = t := by omega
  generalize t / 4294967296 = a at *
  generalize t % 4294967296 = b at *
  rw [pv, hx, hv, hP, Nat.pow_add, Nat.pow_succ, Nat.pow_add]
  have h2 : 4294967296 ^ i * 4294967296 ^ q * (4294967296 * a + b) = 4294967296 ^ i * 4294967296 ^ q * (x * R) := by rw [h, ht]
  grind

theorem ShlInv.start {w0 wr : World} {g n q R : Nat} (h : Own wr g (List.replicate n 0)) (he : Ext w0 wr) (hR : 0 < R) : ShlInv w0 g n q R 0 0 wr :=
  ⟨_, h, by simp, fun i => by rw [getD_zeros]; omega, natVal_zeros n, fun i _ => getD_zeros _ _, by rw [getD_zeros]; exact hR, he⟩
theorem ShlInv.fin {w0 wr : World} {g N q R v i : Nat} (h : ShlInv w0 g N q R v i wr) (hN : N ≤ 140737488355328) :
    ∃ ys, Wd wr (some ⟨g, 0, none⟩) N N ys ∧ natVal ys = v ∧ Ext w0 wr := by
  obtain ⟨ys, h1, h2, h3, h4, h5, h6, h7⟩ := h
  have hw := h1.wd h3 N (Nat.le_of_eq h2) hN
  rw [h2] at hw
  exact ⟨ys, hw, h4, h7⟩
theorem ShlInv.step {w0 wr : World} {g N q r v i P : Nat} {A : List Nat} (h : ShlInv w0 g N q (2 ^ r) v i wr) (hN : i + q + 1 < N) (hr : r < 32) (hx : A.getD i 0 < 4294967296) (hg : w0.heap.size ≤ g)
    (hv : v = P * pv A i) (hP : P = 4294967296 ^ q * 2 ^ r) :
    ∃ o, wr.cell? ⟨g, i + q, none⟩ = some (.int .u32 (o : Nat)) ∧ o < 4294967296 ∧ wr.frozen? ⟨g, i + q, none⟩ = false ∧ wr.cell? ⟨g, i + q + 1, none⟩ = some (.int .u32 (0 : Nat)) ∧ wr.frozen? ⟨g, i + q + 1, none⟩ = false ∧ Ext w0 wr ∧
      o ||| (A.getD i 0 * 2 ^ r % 4294967296) = o + A.getD i 0 * 2 ^ r % 4294967296 ∧
      ShlInv w0 g N q (2 ^ r) (P * pv A (i + 1)) (i + 1) ((wr.setCell ⟨g, i + q, none⟩ (.int .u32 ((o + A.getD i 0 * 2 ^ r % 4294967296 : Nat) : Int))).setCell ⟨g, i + q + 1, none⟩ (.int .u32 ((A.getD i 0 * 2 ^ r / 4294967296 : Nat) : Int))) := by
  obtain ⟨ys, h1, h2, h3, h4, h5, h6, h7⟩ := h
  obtain ⟨w1, w2⟩ := shl_word (A.getD i 0) r _ hr h6
  obtain ⟨t1, t2, t3⟩ := shl_top (A.getD i 0) r hr hx
  have z1 := h5 (i + q + 1) (by omega)
  refine ⟨ys.getD (i + q) 0, h1.cell _ (by omega), h3 _, h1.free _, by rw [h1.cell _ (by omega), z1], h1.free _, h7, w1, ?_⟩
  refine ⟨_, (h1.set _ _).set _ _, by simpa using h2, fun j => ?_, ?_, fun j hj => ?_, ?_, (h7.set hg _).set hg _⟩
  · rw [getD_set _ _ _ _ (by simp; omega), getD_set _ _ _ _ (by omega)]
    split
    · omega
    · split
      · exact w2
      · exact h3 j
  · have e1 := natVal_set ys (i + q) (ys.getD (i + q) 0 + A.getD i 0 * 2 ^ r % 4294967296) (by omega)
    have e2 := natVal_set (ys.set (i + q) (ys.getD (i + q) 0 + A.getD i 0 * 2 ^ r % 4294967296)) (i + q + 1) (A.getD i 0 * 2 ^ r / 4294967296) (by simp; omega)
    rw [getD_set _ _ _ _ (by omega), if_neg (by omega), z1, Nat.mul_zero, Nat.add_zero] at e2
    have e3 := shl_next v i q (2 ^ r) _ (ys.getD (i + q) 0) _ P A rfl hv hP rfl
    rw [h4] at e1
    rw [e2]
    generalize 4294967296 ^ (i + q) * ys.getD (i + q) 0 = a at *
    generalize 4294967296 ^ (i + q) * (ys.getD (i + q) 0 + A.getD i 0 * 2 ^ r % 4294967296) = b at *
    generalize 4294967296 ^ (i + q + 1) * (A.getD i 0 * 2 ^ r / 4294967296) = c at *
    omega
  · rw [getD_set _ _ _ _ (by simp; omega), if_neg (by omega), getD_set _ _ _ _ (by omega), if_neg (by omega)]
    exact h5 j (by omega)
  · rw [show i + 1 + q = i + q + 1 from by omega, getD_set _ _ _ _ (by simp; omega), if_pos rfl]
    exact t1

set_option maxRecDepth 100000 in
set_option maxHeartbeats 1000000 in
theorem shl_wd (w : World) (a1 : Option Addr) (n1 c1 s : Nat) (A : List Nat) (h1 : Wd w a1 n1 c1 A) (s1 : n1 ≤ 536870912) (s2 : s ≤ 1073741824) :
    Calls Tryd.prog 48 #[.slice a1 n1 c1, .int .i64 s] w (RNat w (n1 + s / 32 + 1) (2 ^ s * natVal A)) := by
  have HA := hid h1.lt
  have HlA := hid h1.len
  have HW1 := hid h1
  have sh1 := h1.shape
  have HP : Hid (2 ^ s = 4294967296 ^ (s / 32) * 2 ^ (s % 32)) := by
    show _ = _
    rw [show (4294967296 : Nat) = 2 ^ 32 from rfl, ← Nat.pow_mul, ← Nat.pow_add, Nat.div_add_mod]
  clear h1
  rcases sh1 with sh1 | ⟨b1, off1, rfl, hb1⟩
  all_goals
    go_enter Tryd.func48, Tryd.ntmps48
    go_wp2_with (at_make; refine wpl_make rfl _ _ _ rfl Tryd.underlying56 _ _ (n1 + s / 32 + 1) rfl rfl (by omega) (by omega) (by omega) ?_; intro w1 e1 z1 o1)
    have I0 := hid (ShlInv.start (q := s / 32) (R := 2 ^ (s % 32)) o1 e1 (Nat.pos_of_ne_zero (by simp)))
    clear o1 e1 z1
    go_loopw [18] (fun i wr => ∃ k : Nat, k ≤ n1 ∧ i = .int .i64 k ∧ Hid (ShlInv w w.heap.size (n1 + s / 32 + 1) (s / 32) (2 ^ (s % 32)) (2 ^ s * pv A k) k wr)) (fun i _ => n1 - (intOf i).toNat)
    case atStart => exact ⟨0, by omega, rfl, I0⟩
    case round =>
      clear I0
      obtain ⟨i, hi, rfl, hinv⟩ := hrel
      by_cases hi1 : i < n1
      · first
          | (exfalso; omega)
          | (obtain ⟨o, hc1, ho, hf1, hc2, hf2, hext, hor, hst⟩ := hinv.out.step (by omega) (Nat.mod_lt _ (by omega)) (HA.out i) (Nat.le_refl _) rfl HP.out
             have hcA := (HW1.out.ext hext).cell i hi1
             have hxl := HA.out i
             have Hst := hid hst
             clear hst hinv
             generalize A.getD i 0 = x at *
             obtain ⟨t1, t2, t3⟩ := shl_top x (s % 32) (Nat.mod_lt _ (by omega)) hxl
             have hb := u32_or_nat o (x * 2 ^ (s % 32) % 4294967296) ho (by omega)
             rw [hor] at hb
             have ht : IntKind.u64.wrap ((x : Int) * 2 ^ (s % 32)) = ((x * 2 ^ (s % 32) : Nat) : Int) := by
               have e : (x : Int) * 2 ^ (s % 32) = ((x * 2 ^ (s % 32) : Nat) : Int) := by rw [Int.natCast_mul, Int.natCast_pow]; rfl
               rw [IntKind.wrap_u64, e]
               clear hor t1 t3 hb
               generalize x * 2 ^ (s % 32) = t at *
               omega
             clear hor t1 t3
             generalize x * 2 ^ (s % 32) = t at *
             have hb2 : bits .or .u32 (o : Int) ((t : Int) % 4294967296) = ((o + t % 4294967296 : Nat) : Int) := by rw [← hb]; simp
             have ht2 : (t : Int) / 4294967296 % 4294967296 = ((t / 4294967296 : Nat) : Int) := by omega
             clear hb
             go_wp2_with fail
             go_roundw
             case rel => exact ⟨i + 1, by omega, by go_num, Hst⟩
             case measure => simp [intOf]; omega)
      · obtain rfl : i = n1 := by omega
        obtain ⟨zs, hz1, hz2, hz3⟩ := hinv.out.fin (by omega)
        have hz2 := hid (hz2.trans (by rw [pv_all A _ (Nat.le_of_eq HlA.out)]))
        clear hinv
        go_wp2_with (go_at_call 56; refine (trim_c _ _ _ _ _ hz1).mono ?_; rintro e w3 ⟨ao, n, cap, rfl, he, hn⟩)
        go_ret
        exact ⟨ao, n, cap, rfl, hz3.trans he, hz2.out ▸ hn⟩

theorem shl_c (w : World) (a1 : Option Addr) (n1 c1 s k1 x : Nat) (h1 : NatAt w k1 a1 n1 c1 x) (s1 : k1 ≤ 536870912) (s2 : s ≤ 1073741824) :
    Calls Tryd.prog 48 #[.slice a1 n1 c1, .int .i64 s] w (RNat w (k1 + s / 32 + 1) (x * 2 ^ s)) := by
  obtain ⟨xs, h1, l1, _, rfl⟩ := h1
  refine (shl_wd w a1 n1 c1 s xs h1 (by omega) s2).mono ?_
  rintro e w' ⟨ao, n, cap, he, hx, hn⟩
  rw [Nat.mul_comm]
  exact ⟨ao, n, cap, he, hx, hn.mono (by omega)⟩
end Go.Proofs.YtpflfagjkmeeiaaDoor
