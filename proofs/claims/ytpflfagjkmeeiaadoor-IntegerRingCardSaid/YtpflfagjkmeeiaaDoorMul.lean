/-
  The product of two naturals in package integer, word by word. At most 2^29 words each.
-/
import Derived.Test.YtpflfagjkmeeiaaDoorOwn
import Derived.Test.YtpflfagjkmeeiaaDoorNatMath
import Derived.Test.YtpflfagjkmeeiaaDoorTrim
namespace Go.Proofs.YtpflfagjkmeeiaaDoor
open Go Go.RowKit

/-- What the loops of mul keep: with e the row stands for r, with zeros from place z on. -/
def MulInv (w0 : World) (g N z e r : Nat) (wr : World) : Prop :=
  ∃ ys, Own wr g ys ∧ ys.length = N ∧ (∀ i, ys.getD i 0 < 4294967296) ∧ natVal ys + e = r ∧ (∀ i, z ≤ i → ys.getD i 0 = 0) ∧ Ext w0 wr

/-- Word j of the row, and what a store into it does. -/
theorem MulInv.cell {w0 wr : World} {g N z e r : Nat} (h : MulInv w0 g N z e r wr) (j : Nat) (hj : j < N) :
    ∃ o, wr.cell? ⟨g, j, none⟩ = some (.int .u32 (o : Nat)) ∧ o < 4294967296 ∧ (z ≤ j → o = 0) ∧ wr.frozen? ⟨g, j, none⟩ = false ∧ Ext w0 wr ∧
      ∀ y z' e' r', y < 4294967296 → w0.heap.size ≤ g → z ≤ z' → j < z' → r + 4294967296 ^ j * y + e' = r' + e + 4294967296 ^ j * o → MulInv w0 g N z' e' r' (wr.setCell ⟨g, j, none⟩ (.int .u32 (y : Nat))) := by
  obtain ⟨ys, h1, h2, h3, h4, h5, h6⟩ := h
  refine ⟨ys.getD j 0, h1.cell j (by omega), h3 j, h5 j, h1.free j, h6, fun y z' e' r' hy hg hz hz' hu => ?_⟩
  refine ⟨ys.set j y, h1.set _ _, by simpa using h2, fun i => ?_, ?_, fun i hi => ?_, h6.set hg _⟩
  · rw [getD_set _ _ _ _ (by omega)]; split
    · exact hy
    · exact h3 i
  · have := natVal_set ys j y (by omega)
    generalize 4294967296 ^ j * ys.getD j 0 = p at *
    generalize 4294967296 ^ j * y = q at *
    omega
  · rw [getD_set _ _ _ _ (by omega), if_neg (by omega)]; exact h5 i (by omega)

theorem MulInv.start {w0 wr : World} {g n : Nat} (h : Own wr g (List.replicate n 0)) (he : Ext w0 wr) (z : Nat) : MulInv w0 g n z 0 0 wr :=
  ⟨_, h, by simp, fun i => by rw [getD_zeros]; omega, by rw [natVal_zeros], fun i _ => getD_zeros _ _, he⟩
theorem MulInv.inner {w0 wr : World} {g n1 n2 x i : Nat} {A B : List Nat} (h : MulInv w0 g (n1 + n2) (i + n2) 0 (pv A i * natVal B) wr) : MulInv w0 g (n1 + n2) (i + n2) (4294967296 ^ (i + 0) * 0) (pv A i * natVal B + 4294967296 ^ i * x * pv B 0) wr := by
  simpa [pv] using h
theorem MulInv.fin {w0 wr : World} {g N z r : Nat} (h : MulInv w0 g N z 0 r wr) (hN : N ≤ 140737488355328) :
    ∃ ys, Wd wr (some ⟨g, 0, none⟩) N N ys ∧ natVal ys = r ∧ Ext w0 wr := by
  obtain ⟨ys, h1, h2, h3, h4, h5, h6⟩ := h
  have hw := h1.wd h3 N (Nat.le_of_eq h2) hN
  rw [h2] at hw
  exact ⟨ys, hw, h4, h6⟩

theorem mul_step (r i k x b o c t q s : Nat) (ht : t = x * b + o + c) (hq : q = t / 4294967296) (hs : s = t % 4294967296) :
    r + 4294967296 ^ (i + k) * s + 4294967296 ^ (i + k + 1) * q = (r + 4294967296 ^ i * x * (4294967296 ^ k * b)) + 4294967296 ^ (i + k) * c + 4294967296 ^ (i + k) * o := by
  have h : 4294967296 * q + s = x * b + o + c := by rw [← ht, hq, hs]; omega
  have h2 : 4294967296 ^ (i + k) * (4294967296 * q + s) = 4294967296 ^ (i + k) * (x * b + o + c) := by rw [h]
  rw [Nat.pow_add] at *
  grind
theorem mul_next (v i k x y o c t q s : Nat) (B : List Nat) (ht : t = x * y + o + c) (hy : B.getD k 0 = y) (hq : q = t / 4294967296 := by rfl) (hs : s = t % 4294967296 := by rfl) :
    v + 4294967296 ^ i * x * pv B k + 4294967296 ^ (i + k) * s + 4294967296 ^ (i + (k + 1)) * q = v + 4294967296 ^ i * x * pv B (k + 1) + 4294967296 ^ (i + k) * c + 4294967296 ^ (i + k) * o := by
  have := mul_step (v + 4294967296 ^ i * x * pv B k) i k x y o c t q s ht hq hs
  rw [pv, hy, Nat.mul_add, ← Nat.add_assoc v]
  exact this
theorem mul_end (v i k x o c : Nat) (A B : List Nat) (ho : o = 0) (hk : B.length = k) (hx : A.getD i 0 = x) (hv : v = pv A i * natVal B := by rfl) :
    v + 4294967296 ^ i * x * pv B k + 4294967296 ^ (i + k) * c + 0 = pv A (i + 1) * natVal B + 4294967296 ^ (i + k) * c + 4294967296 ^ (i + k) * o := by
  rw [ho, pv, hx, pv_all B k (Nat.le_of_eq hk), hv]
  grind
theorem prod_lt (x y o c : Nat) (hx : x < 4294967296) (hy : y < 4294967296) (ho : o < 4294967296) (hc : c < 4294967296) : x * y + o + c < 18446744073709551616 ∧ x * y ≤ 18446744065119617025 := by
  have := Nat.mul_le_mul (show x ≤ 4294967295 by omega) (show y ≤ 4294967295 by omega)
  omega

set_option maxRecDepth 100000 in
set_option maxHeartbeats 1000000 in
theorem mul_wd (w : World) (a1 a2 : Option Addr) (n1 n2 c1 c2 : Nat) (A B : List Nat) (h1 : Wd w a1 n1 c1 A) (h2 : Wd w a2 n2 c2 B) (s1 : n1 ≤ 536870912) (s2 : n2 ≤ 536870912) :
    Calls Tryd.prog 41 #[.slice a1 n1 c1, .slice a2 n2 c2] w (RNat w (n1 + n2) (natVal A * natVal B)) := by
  have HA := hid h1.lt
  have HB := hid h2.lt
  have HlA := hid h1.len
  have HlB := hid h2.len
  have HW1 := hid h1
  have HW2 := hid h2
  have sh1 := h1.shape
  have sh2 := h2.shape
  clear h1 h2
  rcases sh1 with sh1 | ⟨b1, off1, rfl, hb1⟩ <;> rcases sh2 with sh2 | ⟨b2, off2, rfl, hb2⟩
  all_goals
    go_enter Tryd.func41, Tryd.ntmps41
    go_wp2_with (at_make; refine wpl_make rfl _ _ _ rfl Tryd.underlying56 _ _ (n1 + n2) rfl rfl (by omega) (by omega) (by omega) ?_; intro w1 e1 z1 o1)
    have I0 := hid (MulInv.start o1 e1 n2)
    clear o1 e1 z1
    go_loopw [20] (fun i wr => ∃ k : Nat, k ≤ n1 ∧ i = .int .i64 k ∧ Hid (MulInv w w.heap.size (n1 + n2) (k + n2) 0 (pv A k * natVal B) wr)) (fun i _ => n1 - (intOf i).toNat)
    case atStart => exact ⟨0, by omega, rfl, by simpa [pv] using I0⟩
    case round =>
      clear I0
      obtain ⟨i, hi, rfl, hinv⟩ := hrel
      by_cases hi1 : i < n1
      · first
          | (exfalso; omega)
          | (obtain ⟨o0, hc0, ho0, hz0, hf0, hext, hst0⟩ := hinv.out.cell i (by omega)
             have hcA := (HW1.out.ext hext).cell i hi1
             have hxl := HA.out i
             clear hc0 ho0 hz0 hf0 hst0
             have Hx := hid (rfl : A.getD i 0 = A.getD i 0)
             generalize hxe : A.getD i 0 = x at hcA hxl
             have Hxe := hid hxe
             clear hxe Hx
             have J0 := hid (MulInv.inner (x := x) hinv.out)
             clear hinv
             go_wp2_with fail
             go_loopw [8, 27] (fun c j wi => ∃ k cc : Nat, k ≤ n2 ∧ cc < 4294967296 ∧ j = .int .i64 k ∧ c = .int .u64 cc ∧ Hid (MulInv w w.heap.size (n1 + n2) (i + n2) (4294967296 ^ (i + k) * cc) (pv A i * natVal B + 4294967296 ^ i * x * pv B k) wi)) (fun _ j _ => n2 - (intOf j).toNat)
             case atStart => exact ⟨0, 0, by omega, by omega, rfl, rfl, J0⟩
             case round =>
               clear J0
               obtain ⟨k, cc, hk, hcc, rfl, rfl, hin⟩ := hrel
               by_cases hk1 : k < n2
               · first
                   | (exfalso; omega)
                   | (obtain ⟨o, hco, hol, hz0, hfo, hexi, hsto⟩ := hin.out.cell (i + k) (by omega)
                      have hcB := (HW2.out.ext hexi).cell k hk1
                      have hyl := HB.out k
                      clear hz0 hin
                      generalize hye : B.getD k 0 = y at hcB hyl
                      have Hye := hid hye
                      clear hye
                      obtain ⟨hp1, hp2⟩ := prod_lt x y o cc hxl hyl hol hcc
                      have Hst := hid hsto
                      clear hsto
                      generalize hpe : x * y = p at hp1 hp2
                      have hpi : (x : Int) * (y : Int) = (p : Int) := by rw [← hpe]; simp
                      have Hpe := hid hpe
                      clear hpe
                      have hq : (p + o + cc) / 4294967296 < 4294967296 := by omega
                      have Hnew := hid (Hst.out ((p + o + cc) % 4294967296) (i + n2) (4294967296 ^ (i + (k + 1)) * ((p + o + cc) / 4294967296)) (pv A i * natVal B + 4294967296 ^ i * x * pv B (k + 1)) (by omega) (Nat.le_refl _) (Nat.le_refl _) (by omega)
                        (mul_next _ i k x y o cc (p + o + cc) _ _ B (by rw [Hpe.out]) Hye.out))
                      clear Hst
                      go_wp2_with fail
                      go_roundw
                      case rel => exact ⟨k + 1, _, by omega, hq, by go_num, by go_num, by rw [show (((p : Int) + o + cc) % 4294967296) = (((p + o + cc) % 4294967296 : Nat) : Int) from by omega]; exact Hnew⟩
                      case measure => simp [intOf]; omega)
               · obtain rfl : k = n2 := by omega
                 obtain ⟨o, hco, hol, hz0, hfo, hexi, hsto⟩ := hin.out.cell (i + k) (by omega)
                 have Hnew := hid (hsto cc (i + 1 + k) 0 (pv A (i + 1) * natVal B) hcc (Nat.le_refl _) (by omega) (by omega) (mul_end _ i k x o cc A B (hz0 (Nat.le_refl _)) HlB.out Hxe.out))
                 clear hsto hz0 hin
                 go_wp2_with fail
                 go_roundw
                 case rel => exact ⟨i + 1, by omega, by go_num, Hnew⟩
                 case measure => simp [intOf]; omega)
      · obtain rfl : i = n1 := by omega
        obtain ⟨zs, hz1, hz2, hz3⟩ := hinv.out.fin (by omega)
        have hz2 := hid (hz2.trans (by rw [pv_all A _ (Nat.le_of_eq HlA.out)]))
        clear hinv
        go_wp2_with (go_at_call 56; refine (trim_c _ _ _ _ _ hz1).mono ?_; rintro e w3 ⟨ao, n, cap, rfl, he, hn⟩)
        go_ret
        exact ⟨ao, n, cap, rfl, hz3.trans he, hz2.out ▸ hn⟩

theorem mul_c (w : World) (a1 a2 : Option Addr) (n1 n2 c1 c2 k1 k2 x y : Nat) (h1 : NatAt w k1 a1 n1 c1 x) (h2 : NatAt w k2 a2 n2 c2 y) (s1 : k1 ≤ 536870912) (s2 : k2 ≤ 536870912) :
    Calls Tryd.prog 41 #[.slice a1 n1 c1, .slice a2 n2 c2] w (RNat w (k1 + k2) (x * y)) := by
  obtain ⟨xs, h1, l1, _, rfl⟩ := h1
  obtain ⟨ys, h2, l2, _, rfl⟩ := h2
  refine (mul_wd w a1 a2 n1 n2 c1 c2 xs ys h1 h2 (by omega) (by omega)).mono ?_
  rintro e w' ⟨ao, n, cap, he, hx, hn⟩
  exact ⟨ao, n, cap, he, hx, hn.mono (by omega)⟩
end Go.Proofs.YtpflfagjkmeeiaaDoor
