/-
  A natural divided by a power of 2 less than 2^32, in package integer. At most 2^30 words.
-/
import Derived.Test.YtpflfagjkmeeiaaDoorOwn
import Derived.Test.YtpflfagjkmeeiaaDoorNatMath
import Derived.Test.YtpflfagjkmeeiaaDoorTrim
namespace Go.Proofs.YtpflfagjkmeeiaaDoor
open Go Go.RowKit

theorem shr_word (x y R c : Nat) (hx : x < 4294967296) (hR : 0 < R) (hc : 4294967296 = c * R) :
    R * ((x + 4294967296 * y) / R % 4294967296) + x % R = x + 4294967296 * (y % R) := by
  have h1 : (x + 4294967296 * y) / R = x / R + c * y := by
    rw [hc, show c * R * y = R * (c * y) from by grind, Nat.add_mul_div_left _ _ hR]
  have h2 : x / R < c := by
    rw [Nat.div_lt_iff_lt_mul hR, ← hc]; exact hx
  have h3 : (x / R + c * y) % 4294967296 = x / R + c * (y % R) := by
    rw [hc, Nat.mod_mul, Nat.add_mul_mod_self_left, Nat.mod_eq_of_lt h2, Nat.add_mul_div_left _ _ (Nat.zero_lt_of_lt h2), Nat.div_eq_of_lt h2, Nat.zero_add]
  rw [h1, h3, Nat.mul_add]
  have h4 := Nat.div_add_mod x R
  have h5 : 4294967296 * (y % R) = R * (c * (y % R)) := by rw [hc]; grind
  rw [h5]
  omega

/-- What the loop of shr keeps: k words are done. -/
def ShrInv (w0 : World) (g N R : Nat) (A : List Nat) (k : Nat) (wr : World) : Prop :=
  ∃ ys, Own wr g ys ∧ ys.length = N ∧ (∀ i, ys.getD i 0 < 4294967296) ∧ R * pv ys k + A.getD 0 0 % R = pv A k + 4294967296 ^ k * (A.getD k 0 % R) ∧ Ext w0 wr

theorem ShrInv.start {w0 wr : World} {g n R : Nat} {A : List Nat} (h : Own wr g (List.replicate n 0)) (he : Ext w0 wr) : ShrInv w0 g n R A 0 wr :=
  ⟨_, h, by simp, fun i => by rw [getD_zeros]; omega, by simp [pv], he⟩
theorem ShrInv.fin {w0 wr : World} {g N R : Nat} {A : List Nat} (h : ShrInv w0 g N R A N wr) (hN : N ≤ 140737488355328) (hl : A.length = N) (hR : 0 < R) :
    ∃ ys, Wd wr (some ⟨g, 0, none⟩) N N ys ∧ natVal ys = natVal A / R ∧ Ext w0 wr := by
  obtain ⟨ys, h1, h2, h3, h4, h7⟩ := h
  have hw := h1.wd h3 N (Nat.le_of_eq h2) hN
  rw [h2] at hw
  refine ⟨ys, hw, ?_, h7⟩
  rw [pv_all ys _ (Nat.le_of_eq h2), pv_all A _ (Nat.le_of_eq hl), getD_big A N (Nat.le_of_eq hl), Nat.zero_mod, Nat.mul_zero, Nat.add_zero] at h4
  rw [← h4, Nat.mul_add_div hR, Nat.div_eq_of_lt (Nat.mod_lt _ hR), Nat.add_zero]
theorem ShrInv.step {w0 wr : World} {g N R c k : Nat} {A : List Nat} (h : ShrInv w0 g N R A k wr) (hk : k < N) (hg : w0.heap.size ≤ g) (hA : ∀ i, A.getD i 0 < 4294967296) (hR : 0 < R) (hc : 4294967296 = c * R) :
    wr.frozen? ⟨g, k, none⟩ = false ∧ (∃ o : Nat, wr.cell? ⟨g, k, none⟩ = some (.int .u32 o)) ∧ Ext w0 wr ∧
      ShrInv w0 g N R A (k + 1) (wr.setCell ⟨g, k, none⟩ (.int .u32 (((A.getD k 0 + 4294967296 * A.getD (k + 1) 0) / R % 4294967296 : Nat) : Int))) := by
  obtain ⟨ys, h1, h2, h3, h4, h7⟩ := h
  refine ⟨h1.free _, ⟨_, h1.cell _ (by omega)⟩, h7, ?_⟩
  refine ⟨_, h1.set _ _, by simpa using h2, fun j => ?_, ?_, h7.set hg _⟩
  · rw [getD_set _ _ _ _ (by omega)]; split
    · exact Nat.mod_lt _ (by omega)
    · exact h3 j
  · have e := shr_word (A.getD k 0) (A.getD (k + 1) 0) R c (hA k) hR hc
    rw [pv, pv, pv_set _ _ _ (by omega), getD_set _ _ _ _ (by omega), if_pos rfl]
    generalize (A.getD k 0 + 4294967296 * A.getD (k + 1) 0) / R % 4294967296 = q at *
    have e2 : 4294967296 ^ k * (R * q + A.getD k 0 % R) = 4294967296 ^ k * (A.getD k 0 + 4294967296 * (A.getD (k + 1) 0 % R)) := by rw [e]
    generalize A.getD k 0 % R = a at *
    generalize A.getD (k + 1) 0 % R = b at *
    rw [Nat.pow_succ]
    grind

set_option maxRecDepth 100000 in
set_option maxHeartbeats 1000000 in
theorem shr_wd (w : World) (a1 : Option Addr) (n1 c1 s : Nat) (A : List Nat) (h1 : Wd w a1 n1 c1 A) (s1 : n1 ≤ 1073741824) (s2 : s < 32) :
    Calls Tryd.prog 61 #[.slice a1 n1 c1, .int .i64 s] w (RNat w n1 (natVal A / 2 ^ s)) := by
  have HA := hid h1.lt
  have HlA := hid h1.len
  have HW1 := hid h1
  have sh1 := h1.shape
  obtain ⟨c, hc⟩ : ∃ c, 4294967296 = c * 2 ^ s := ⟨2 ^ (32 - s), by rw [← Nat.pow_add, show 32 - s + s = 32 from by omega]⟩
  have Hc := hid hc
  have hpos : 0 < 2 ^ s := Nat.pos_of_ne_zero (by simp)
  clear h1 hc
  rcases sh1 with sh1 | ⟨b1, off1, rfl, hb1⟩
  all_goals
    go_enter Tryd.func61, Tryd.ntmps61
    go_wp2_with (at_make; refine wpl_make rfl _ _ _ rfl Tryd.underlying56 _ _ n1 rfl rfl (by omega) (by omega) (by omega) ?_; intro w1 e1 z1 o1)
    have I0 := hid (ShrInv.start (R := 2 ^ s) (A := A) o1 e1)
    clear o1 e1 z1
    go_loopw [13] (fun i wr => ∃ k : Nat, k ≤ n1 ∧ i = .int .i64 k ∧ Hid (ShrInv w w.heap.size n1 (2 ^ s) A k wr)) (fun i _ => n1 - (intOf i).toNat)
    case atStart => exact ⟨0, by omega, rfl, I0⟩
    case round =>
      clear I0
      obtain ⟨i, hi, rfl, hinv⟩ := hrel
      by_cases hi1 : i < n1
      · first
          | (exfalso; omega)
          | (obtain ⟨hf1, ⟨o, hc1⟩, hext, hst⟩ := hinv.out.step hi1 (Nat.le_refl _) HA.out hpos Hc.out
             have hcA := (HW1.out.ext hext).cell i hi1
             have hcB := fun h => (HW1.out.ext hext).cell (i + 1) h
             have hxl := HA.out i
             have hyl := HA.out (i + 1)
             have hy0 : n1 ≤ i + 1 → A.getD (i + 1) 0 = 0 := fun h => getD_big _ _ (by rw [HlA.out]; exact h)
             have Hst := hid hst
             clear hst hinv
             generalize A.getD i 0 = x at *
             generalize A.getD (i + 1) 0 = y at *
             by_cases hi2 : i + 1 < n1
             · have hcB := hcB hi2
               clear hy0
               have hor : bits .or .u64 (x : Int) ((y : Int) * 4294967296) = ((x + 4294967296 * y : Nat) : Int) := by
                 have := u64_or_nat x (y * 4294967296) (by omega) (by omega)
                 rw [Nat.or_comm, nat_join 32 _ _ (by omega) (by omega)] at this
                 simp only [Int.natCast_mul] at this
                 rw [show ((4294967296 : Nat) : Int) = 4294967296 from rfl] at this
                 rw [this]; omega
               go_wp2_with fail
               go_roundw
               case rel => exact ⟨i + 1, by omega, by go_num, by simpa using Hst⟩
               case measure => simp [intOf]; omega
             · have hy0 := hy0 (by omega)
               subst hy0
               clear hcB
               go_wp2_with fail
               go_roundw
               case rel => exact ⟨i + 1, by omega, by go_num, by simpa using Hst⟩
               case measure => simp [intOf]; omega)
      · obtain rfl : i = n1 := by omega
        obtain ⟨zs, hz1, hz2, hz3⟩ := hinv.out.fin (by omega) HlA.out hpos
        have hz2 := hid hz2
        clear hinv
        go_wp2_with (go_at_call 56; refine (trim_c _ _ _ _ _ hz1).mono ?_; rintro e w3 ⟨ao, n, cap, rfl, he, hn⟩)
        go_ret
        exact ⟨ao, n, cap, rfl, hz3.trans he, hz2.out ▸ hn⟩

theorem shr_c (w : World) (a1 : Option Addr) (n1 c1 s k1 x : Nat) (h1 : NatAt w k1 a1 n1 c1 x) (s1 : k1 ≤ 1073741824) (s2 : s < 32) :
    Calls Tryd.prog 61 #[.slice a1 n1 c1, .int .i64 s] w (RNat w k1 (x / 2 ^ s)) := by
  obtain ⟨xs, h1, l1, _, rfl⟩ := h1
  refine (shr_wd w a1 n1 c1 s xs h1 (by omega) s2).mono ?_
  rintro e w' ⟨ao, n, cap, he, hx, hn⟩
  exact ⟨ao, n, cap, he, hx, hn.mono (by omega)⟩
end Go.Proofs.YtpflfagjkmeeiaaDoor
