/-
  Integers of package integer: Root. Every integer of at most 2^20 words, every int as the degree. (Printed in part by wip/gen/root.py.) Integers of package integer: Root and Sqrt, as facts. Every integer of at most 2^20 words. (Printed in part by wip/gen/sqrt.py.)
-/
import Derived.Test.YtpflfagjkmeeiaaDoorFact
namespace Go.Proofs.YtpflfagjkmeeiaaDoor
open Go Go.RowKit

theorem Root_neg (w : World) (s1 : Bool) (a1 : Option Addr) (n1 c1 k1 : Nat) (z1 : Int) (h1 : IntAt w k1 s1 a1 n1 c1 z1) (l1 : k1 ≤ 1048576) (k : Int) (hk : s1 = true ∨ k < 1) :
    Calls Tryd.prog 21 #[.agg #[.bool s1, .slice a1 n1 c1], .int .i64 k] w (Ret w (IsT2 (IsI 0 0) (IsV (.int .i64 1)))) := by
  obtain ⟨W, hW, K0⟩ := kq11 w s1 a1 n1 c1; have b2 := hid (K0.bx w.heap.size s1 a1 n1 c1 (by simp)); have b4 := hid (K0.bx (w.heap.size + 1) false none 0 0 (by simp)); have E := hid K0.ext; have hz := hid (h1.ext K0.ext); have H := hid (Bits_c W s1 a1 n1 c1 k1 z1 (h1.ext K0.ext) (by omega)); clear K0 h1; generalize bitLen z1.natAbs = b at *
  cases s1
  · have hk1 : k < 1 := by simpa using hk
    have hd : decide (k < 1) = true := by simpa using hk1
    clear hk
    go_enter Tryd.func21, Tryd.ntmps21; go_wp2_with fail; rw [← hW]; clear hW; have G1 := b2.out.c0; have G2 := b2.out.c1; have G3 := b2.out.f0; have G4 := b2.out.f1; go_wp2_with fail; refine Calls.mono H.out ?_; rintro e w1 ⟨rfl, e1⟩; have b2 := hid (b2.out.ext e1); have b4 := hid (b4.out.ext e1); have E := hid (E.out.trans e1); have hz := hid (hz.out.ext e1); clear G1 G2 G3 G4 H e1
    have G1 := b2.out.c0; have G2 := b2.out.c1; have G3 := b2.out.f0; have G4 := b2.out.f1
    have F1 := b4.out.c0; have F2 := b4.out.c1; have F3 := b4.out.f0; have F4 := b4.out.f1
    go_wp2_with fail
    obtain ⟨X1, hW, b4, p⟩ := b4.out.put' false none 0 0
    rw [← hW]; clear hW
    have T0 := b4.c0; have T1 := b4.c1
    exact bodyPost_ret (v := .tuple #[.agg #[.bool false, .slice none 0 0], .int .i64 1]) (by simp [results, Tryd.results21, go_sem, T0, T1]) rfl ⟨_, rfl, E.out.pt p (by omega), _, _, rfl, IsI.nil _ _, rfl⟩
  · clear hk
    go_enter Tryd.func21, Tryd.ntmps21; go_wp2_with fail; rw [← hW]; clear hW; have G1 := b2.out.c0; have G2 := b2.out.c1; have G3 := b2.out.f0; have G4 := b2.out.f1; go_wp2_with fail; refine Calls.mono H.out ?_; rintro e w1 ⟨rfl, e1⟩; have b2 := hid (b2.out.ext e1); have b4 := hid (b4.out.ext e1); have E := hid (E.out.trans e1); have hz := hid (hz.out.ext e1); clear G1 G2 G3 G4 H e1
    have G1 := b2.out.c0; have G2 := b2.out.c1; have G3 := b2.out.f0; have G4 := b2.out.f1
    have F1 := b4.out.c0; have F2 := b4.out.c1; have F3 := b4.out.f0; have F4 := b4.out.f1
    go_wp2_with fail
    obtain ⟨X1, hW, b4, p⟩ := b4.out.put' false none 0 0
    rw [← hW]; clear hW
    have T0 := b4.c0; have T1 := b4.c1
    exact bodyPost_ret (v := .tuple #[.agg #[.bool false, .slice none 0 0], .int .i64 1]) (by simp [results, Tryd.results21, go_sem, T0, T1]) rfl ⟨_, rfl, E.out.pt p (by omega), _, _, rfl, IsI.nil _ _, rfl⟩

theorem Root_self (w : World) (a1 : Option Addr) (n1 c1 k1 : Nat) (z1 : Int) (h1 : IntAt w k1 false a1 n1 c1 z1) (l1 : k1 ≤ 1048576) (k : Nat) (hk : 1 ≤ k) (hz0 : z1 = 0 ∨ k = 1) (hhi : k ≤ 9223372036854775807) :
    Calls Tryd.prog 21 #[.agg #[.bool false, .slice a1 n1 c1], .int .i64 k] w (Ret w (IsT2 (IsI k1 z1) (IsV (.int .i64 0)))) := by
  obtain ⟨s1, hs⟩ : ∃ s, s = false := ⟨_, rfl⟩
  rw [← hs] at h1 ⊢
  have hb0 : z1 = 0 → bitLen z1.natAbs = 0 := fun h => by rw [h]; rfl
  have hb : z1 ≠ 0 → bitLen z1.natAbs ≠ 0 := fun h => by obtain ⟨_, h2, _⟩ := bitLen_bounds z1.natAbs (by omega); omega
  obtain ⟨W, hW, K0⟩ := kq11 w s1 a1 n1 c1; have b2 := hid (K0.bx w.heap.size s1 a1 n1 c1 (by simp)); have b4 := hid (K0.bx (w.heap.size + 1) false none 0 0 (by simp)); have E := hid K0.ext; have hz := hid (h1.ext K0.ext); have H := hid (Bits_c W s1 a1 n1 c1 k1 z1 (h1.ext K0.ext) (by omega)); clear K0 h1; generalize bitLen z1.natAbs = b at *
  have hd : decide ((k : Int) < 1) = false := by simp; omega
  subst hs
  by_cases h0 : z1 = 0
  · obtain rfl : b = 0 := hb0 h0
    clear hb0 hb h0 hz0
    go_enter Tryd.func21, Tryd.ntmps21; go_wp2_with fail; rw [← hW]; clear hW; have G1 := b2.out.c0; have G2 := b2.out.c1; have G3 := b2.out.f0; have G4 := b2.out.f1; go_wp2_with fail; refine Calls.mono H.out ?_; rintro e w1 ⟨rfl, e1⟩; have b2 := hid (b2.out.ext e1); have b4 := hid (b4.out.ext e1); have E := hid (E.out.trans e1); have hz := hid (hz.out.ext e1); clear G1 G2 G3 G4 H e1
    have G1 := b2.out.c0; have G2 := b2.out.c1; have G3 := b2.out.f0; have G4 := b2.out.f1
    have F1 := b4.out.c0; have F2 := b4.out.c1; have F3 := b4.out.f0; have F4 := b4.out.f1
    go_wp2_with fail
    obtain ⟨X1, hW, b4, p⟩ := b4.out.put' false a1 n1 c1
    rw [← hW]; clear hW
    have T0 := b4.c0; have T1 := b4.c1
    exact bodyPost_ret (v := .tuple #[.agg #[.bool false, .slice a1 n1 c1], .int .i64 0]) (by simp [results, Tryd.results21, go_sem, T0, T1]) rfl ⟨_, rfl, E.out.pt p (by omega), _, _, rfl, ⟨_, _, _, _, rfl, hz.out.pt p⟩, rfl⟩
  · obtain rfl : k = 1 := hz0.resolve_left h0
    have hb := hb h0
    have hb1 : ((b : Int) == 0) = false := by rw [beq_eq_false_iff_ne]; omega
    clear hb0 hb h0 hz0 hd
    go_enter Tryd.func21, Tryd.ntmps21; go_wp2_with fail; rw [← hW]; clear hW; have G1 := b2.out.c0; have G2 := b2.out.c1; have G3 := b2.out.f0; have G4 := b2.out.f1; go_wp2_with fail; refine Calls.mono H.out ?_; rintro e w1 ⟨rfl, e1⟩; have b2 := hid (b2.out.ext e1); have b4 := hid (b4.out.ext e1); have E := hid (E.out.trans e1); have hz := hid (hz.out.ext e1); clear G1 G2 G3 G4 H e1
    have G1 := b2.out.c0; have G2 := b2.out.c1; have G3 := b2.out.f0; have G4 := b2.out.f1
    have F1 := b4.out.c0; have F2 := b4.out.c1; have F3 := b4.out.f0; have F4 := b4.out.f1
    go_wp2_with fail
    obtain ⟨X1, hW, b4, p⟩ := b4.out.put' false a1 n1 c1
    rw [← hW]; clear hW
    have T0 := b4.c0; have T1 := b4.c1
    exact bodyPost_ret (v := .tuple #[.agg #[.bool false, .slice a1 n1 c1], .int .i64 0]) (by simp [results, Tryd.results21, go_sem, T0, T1]) rfl ⟨_, rfl, E.out.pt p (by omega), _, _, rfl, ⟨_, _, _, _, rfl, hz.out.pt p⟩, rfl⟩

theorem Root_one (w : World) (a1 : Option Addr) (n1 c1 k1 : Nat) (z1 : Int) (h1 : IntAt w k1 false a1 n1 c1 z1) (l1 : k1 ≤ 1048576) (k : Nat) (hk : 2 ≤ k) (hz0 : z1 ≠ 0) (hkn : bitLen z1.natAbs ≤ k) (hhi : k ≤ 9223372036854775807) :
    Calls Tryd.prog 21 #[.agg #[.bool false, .slice a1 n1 c1], .int .i64 k] w (Ret w (IsT2 (IsI 2 1) (IsV (.int .i64 0)))) := by
  obtain ⟨s1, hs⟩ : ∃ s, s = false := ⟨_, rfl⟩
  rw [← hs] at h1 ⊢
  have hb : bitLen z1.natAbs ≠ 0 := by obtain ⟨_, h2, _⟩ := bitLen_bounds z1.natAbs (by omega); omega
  obtain ⟨W, hW, K0⟩ := kq11 w s1 a1 n1 c1; have b2 := hid (K0.bx w.heap.size s1 a1 n1 c1 (by simp)); have b4 := hid (K0.bx (w.heap.size + 1) false none 0 0 (by simp)); have E := hid K0.ext; have hz := hid (h1.ext K0.ext); have H := hid (Bits_c W s1 a1 n1 c1 k1 z1 (h1.ext K0.ext) (by omega)); clear K0 h1; generalize bitLen z1.natAbs = b at *
  have hd : decide ((k : Int) < 1) = false := by simp; omega
  have hd1 : ((k : Int) == 1) = false := by rw [beq_eq_false_iff_ne]; omega
  have hb1 : ((b : Int) == 0) = false := by rw [beq_eq_false_iff_ne]; omega
  have hd2 : decide (b ≤ k) = true := by simpa using hkn
  subst hs
  clear hb hz0
  go_enter Tryd.func21, Tryd.ntmps21; go_wp2_with fail; rw [← hW]; clear hW; have G1 := b2.out.c0; have G2 := b2.out.c1; have G3 := b2.out.f0; have G4 := b2.out.f1; go_wp2_with fail; refine Calls.mono H.out ?_; rintro e w1 ⟨rfl, e1⟩; have b2 := hid (b2.out.ext e1); have b4 := hid (b4.out.ext e1); have E := hid (E.out.trans e1); have hz := hid (hz.out.ext e1); clear G1 G2 G3 G4 H e1
  have G1 := b2.out.c0; have G2 := b2.out.c1; have G3 := b2.out.f0; have G4 := b2.out.f1
  have F1 := b4.out.c0; have F2 := b4.out.c1; have F3 := b4.out.f0; have F4 := b4.out.f1
  go_wp2_with fail
  refine Calls.mono (Of_c w1 1 (by decide) (by decide)) ?_
  rintro e w2 ⟨s3, a3, n3, c3, rfl, e2, h3⟩
  clear F1 F2 F3 F4 G1 G2 G3 G4 hd hd1 hb1 hd2
  have b4 := b4.out.ext e2
  have F1 := b4.c0; have F2 := b4.c1; have F3 := b4.f0; have F4 := b4.f1
  go_wp2_with fail
  obtain ⟨X1, hW, b4, p⟩ := b4.put' s3 a3 n3 c3
  rw [← hW]; clear hW
  have T0 := b4.c0; have T1 := b4.c1
  exact bodyPost_ret (v := .tuple #[.agg #[.bool s3, .slice a3 n3 c3], .int .i64 0]) (by simp [results, Tryd.results21, go_sem, T0, T1]) rfl ⟨_, rfl, (E.out.trans e2).pt p (by omega), _, _, rfl, ⟨_, _, _, _, rfl, h3.pt p⟩, rfl⟩

/-- What the loop keeps. -/
def RootI (w : World) (k1 ks : Nat) (z1 : Int) (j g7 s : Nat) (W : World) : Prop :=
  St w W [(g7, IsI ks (s : Int)), (w.heap.size + 1, IsI 0 0), (w.heap.size, IsI k1 z1)] ∧ Above z1.natAbs (j + 1) s

set_option maxRecDepth 100000 in
set_option maxHeartbeats 2000000 in
theorem Root_main (w : World) (a1 : Option Addr) (n1 c1 k1 : Nat) (z1 : Int) (h1 : IntAt w k1 false a1 n1 c1 z1) (l1 : k1 ≤ 1048576) (j n c ks : Nat) (hj : 1 ≤ j) (hz0 : 0 < z1) (hn : n = bitLen z1.natAbs) (hkn : j + 1 < n) (hn2 : n ≤ 33554432)
    (hc : c = (n + (j + 1) - 1) / (j + 1)) (hks : ks = c / 32 + 1) :
    Calls Tryd.prog 21 #[.agg #[.bool false, .slice a1 n1 c1], .int .i64 ((j : Int) + 1)] w (fun e w' => ∃ r : Nat, IsRoot z1.natAbs (j + 1) r ∧ Ret w (IsT2 (IsI ks (r : Int)) (IsV (.int .i64 0))) e w') := by
  obtain ⟨s1, hs⟩ : ∃ s, s = false := ⟨_, rfl⟩
  rw [← hs] at h1 ⊢
  have hw := root_words n (j + 1) c (by omega) hkn hc
  have HA := hid (Above.start z1.natAbs (j + 1) c (by have := hw.1; omega))
  have hwb := hw.2.2.1
  have hwc : ks ≤ n := by have := hw.2.2.2; omega
  have hcn : c ≤ n := by have := hw.2.1; have : 2 * c ≤ (j + 1) * c := Nat.mul_le_mul_right c (by omega); omega
  rw [← hks, show j + 1 - 1 = j from rfl] at hwb
  have HS := hid (show (2 ^ c : Nat) < 4294967296 ^ ks by rw [hks]; exact two_pow_words c)
  have HTd := hid (root_tdiv n (j + 1) c (by omega) hc)
  have Hz0 := hid hz0
  clear hw hc hks
  obtain ⟨W, hW, K0⟩ := kq11 w s1 a1 n1 c1; have b2 := hid (K0.bx w.heap.size s1 a1 n1 c1 (by simp)); have b4 := hid (K0.bx (w.heap.size + 1) false none 0 0 (by simp)); have E := hid K0.ext; have hz := hid (h1.ext K0.ext); have H := hid (Bits_c W s1 a1 n1 c1 k1 z1 (h1.ext K0.ext) (by omega)); clear K0 h1; generalize bitLen z1.natAbs = b at *
  obtain rfl : n = b := hn
  have hd : decide ((j : Int) + 1 < 1) = false := by simp; omega
  have hd1 : (((j : Int) + 1) == 1) = false := by rw [beq_eq_false_iff_ne]; omega
  have hb1 : ((n : Int) == 0) = false := by rw [beq_eq_false_iff_ne]; omega
  have hd2 : decide ((n : Int) ≤ (j : Int) + 1) = false := by simp; omega
  subst hs
  go_enter Tryd.func21, Tryd.ntmps21; go_wp2_with fail; rw [← hW]; clear hW; have G1 := b2.out.c0; have G2 := b2.out.c1; have G3 := b2.out.f0; have G4 := b2.out.f1; go_wp2_with fail; refine Calls.mono H.out ?_; rintro e w1 ⟨rfl, e1⟩; have b2 := hid (b2.out.ext e1); have b4 := hid (b4.out.ext e1); have E := hid (E.out.trans e1); have hz := hid (hz.out.ext e1); clear G1 G2 G3 G4 H e1
  have G1 := b2.out.c0; have G2 := b2.out.c1; have G3 := b2.out.f0; have G4 := b2.out.f1
  go_upto_region 8 with (fail)
  clear hd hd1 hb1 hd2 G1 G2 G3 G4
  have hx1 : ((n : Int) + ((j : Int) + 1) - 1).tdiv ((j : Int) + 1) = (c : Int) := by have h := HTd.out; simpa using h
  have hx2 : ((n : Int) + ((j : Int) + 1) - 1) / ((j : Int) + 1) = (c : Int) := by rw [← hx1, Int.tdiv_eq_ediv_of_nonneg (by omega)]
  go_wp2_with fail
  refine Calls.mono (shl_c _ (some ⟨w1.heap.size, 0, none⟩) 1 1 c 1 1 ⟨[1], wd_new1 w1 1 (by decide), by omega, by simp, rfl⟩ (by omega) (by omega)) ?_
  rintro e w3 ⟨ao, n', cap, rfl, e3, hm⟩
  obtain ⟨xs, hwd, hk', _, hv⟩ := hm
  have Hv := hid hv
  clear hv hx1 hx2
  go_wp2_with fail
  refine Calls.mono (of_c w3 false ao n' cap xs ((2 ^ c : Nat) : Int) hwd (by rw [Hv.out]; simp)) ?_
  rintro e w4 ⟨s3, a3, n3, c3, rfl, e4, h3⟩
  have h3 := h3.tight (k' := ks) (by rw [Int.natAbs_natCast]; exact HS.out)
  go_wp2_with fail
  obtain ⟨w5, hW, b7, e5⟩ := bx1 w4 s3 a3 n3 c3
  rw [← hW]; clear hW
  have e15 : Ext w1 w5 := (((Ext.refl w1).alloc _).trans (e3.trans e4)).trans e5
  have b2 := b2.out.ext (((Ext.refl w1).alloc _).trans (e3.trans e4))
  have b4 := b4.out.ext (((Ext.refl w1).alloc _).trans (e3.trans e4))
  have l2 := b2.lt
  have l4 := b4.lt
  obtain ⟨g7, hg7⟩ : ∃ g7, g7 = w4.heap.size := ⟨_, rfl⟩
  rw [← hg7] at b7 l2 l4
  rw [← hg7]
  clear hg7
  have S0 : RootI w k1 ks z1 j g7 (2 ^ c) w5 := ⟨((((St.start w).mono (E.out.trans e15)).addB (g := w.heap.size) (fun p hp => by cases hp) (by omega) (b2.ext e5) (IsI.gstb k1 z1) ⟨_, _, _, _, rfl, hz.out.ext e15⟩).addB (g := w.heap.size + 1) (Apart.cons (by omega) (fun p hp => by cases hp)) (by omega) (b4.ext e5) (IsI.gstb 0 0) (IsI.nil _ _)).addB (Apart.cons (by omega) (Apart.cons (by omega) (fun p hp => by cases hp))) (by omega) b7 (IsI.gstb ks ((2 ^ c : Nat) : Int)) ⟨_, _, _, _, rfl, h3.ext e5⟩, HA.out⟩
  have S0 := hid S0
  clear b2 b4 b7 h3 e15 e5 e4 e3 hz E HA hwd Hv l2 l4
  generalize (2 ^ c : Nat) = s0 at *
  go_loopg [] s0 (fun gk wr => Hid (RootI w k1 ks z1 j g7 gk wr))
  case atStart => exact S0
  case round =>
    clear S0
    obtain ⟨S, hab⟩ := hrel.out
    clear hrel
    have hs0 := hab.pos (by have := Hz0.out; omega)
    have HK : Hid (gk < 4294967296 ^ ks) := by
      obtain ⟨s8, a8, n8, c8, b8, h8⟩ := S.at 0 g7 (IsI ks (gk : Int)) rfl
      have h9 := h8.size
      exact hid (by simpa using h9)
    have HP := hid (show ((gk : Int)) ^ j ≠ 0 from fun h => by
      have h5 : 0 < (gk : Int) ^ j := Int.pow_pos (by omega)
      omega)
    obtain ⟨t, ht⟩ : ∃ t, t = (j * gk + z1.natAbs / gk ^ j) / (j + 1) := ⟨_, rfl⟩
    have HT : Hid (((gk : Int) * (j : Int) + z1 / (gk : Int) ^ j) / ((j : Int) + 1) = (t : Int)) := hid (by
      have h5 := newton_int z1 (gk : Int) j z1.natAbs gk (by have := Hz0.out; omega) rfl
      rw [← ht] at h5
      have h6 : ((j + 1 : Nat) : Int) = (j : Int) + 1 := by omega
      rw [h6, show (j : Int) + 1 - 1 = (j : Int) from by omega] at h5
      exact h5)
    have HU := hid (show Above z1.natAbs (j + 1) t from Above.step hs0 ht)
    have HF := hid (show gk ≤ t → IsRoot z1.natAbs (j + 1) gk from fun h => hab.fin hs0 ht h)
    have HJ := hid (show IntKind.i64.wrap (j : Int) = (j : Int) by simp only [IntKind.wrap_i64]; omega)
    clear hab ht
    go_wp2_with fail
    have hl := hid S.lt; have hw := S.ext.size
    refine wp_region_rgO 12 [8, 9] [some 44, some 45, some 46, some 47, some 48, some 49, some 43, some 50, some 51, some 52, some 8, some 9] [IsI k1 z1, IsI ks ((gk : Int)), IsV (.int .i64 ((j : Int) + 1)), IsV (.int .i64 (j : Int)), IsI (ks * j + 1) ((gk : Int) ^ j), IsT3 (IsI k1 (z1 / (gk : Int) ^ j)) (IsI (ks * j + 1) (z1 % (gk : Int) ^ j)) (IsV (.int .i64 0)), IsT3 (IsI k1 (z1 / (gk : Int) ^ j)) (IsI (ks * j + 1) (z1 % (gk : Int) ^ j)) (IsV (.int .i64 0)), IsI k1 (z1 / (gk : Int) ^ j), IsI (ks * j + 1) (z1 % (gk : Int) ^ j), IsV (.int .i64 0), IsB wr, IsB wr] [10, 11] 3 (by kernel_rfl) (by decide) (by kernel_rfl) (by kernel_rfl) (by kernel_rfl) (by kernel_rfl) (by kernel_rfl) (by kernel_rfl) ?_ ?_ ?_ ?_ ?_
    · repeat' (first | exact trivial | exact IsV.stb _ | exact IsI.stb _ _ | exact IsB.stb _ | exact IsR.stb _ _ | exact IsMag.stb _ _ | exact IsPos.stb | apply IsT3.stb | apply IsT2.stb | apply And.intro)
    · intro i hi; simp only [List.mem_cons, List.not_mem_nil, or_false] at hi; rcases hi with rfl | rfl <;> exact IsB.box _
    · intro i hi; simp only [List.mem_cons, List.not_mem_nil, or_false] at hi; rcases hi with rfl | rfl
      · (intro v w' hE hd; have d0 : (IsT3 (IsI k1 (z1 / (gk : Int) ^ j)) (IsI (ks * j + 1) (z1 % (gk : Int) ^ j)) (IsV (.int .i64 0))) (v 6) w' := hd 6 (by kernel_rfl); obtain ⟨x0, x1, x2, z0, y0, y1, y2⟩ := d0; refine ⟨_, _, rfl, Or.inl ⟨by rfl, ?_⟩, y1⟩; intro w9; simp only [layL, Act.put, List.setIfInBounds_toArray, List.set_cons_zero, List.set_cons_succ, Nat.reduceAdd]; rw [z0]; go_simp)
      · (intro v w' hE hd; have d0 : (IsT3 (IsI k1 (z1 / (gk : Int) ^ j)) (IsI (ks * j + 1) (z1 % (gk : Int) ^ j)) (IsV (.int .i64 0))) (v 6) w' := hd 6 (by kernel_rfl); obtain ⟨x0, x1, x2, z0, y0, y1, y2⟩ := d0; refine ⟨_, _, rfl, Or.inl ⟨by rfl, ?_⟩, y2⟩; intro w9; simp only [layL, Act.put, List.setIfInBounds_toArray, List.set_cons_zero, List.set_cons_succ, Nat.reduceAdd]; rw [z0]; go_simp)
    · refine RgAll.cons (by { intro v w' hE hd; simp only [layL, Act.put, List.setIfInBounds_toArray, List.set_cons_zero, List.set_cons_succ, Nat.reduceAdd]; obtain ⟨s8, a8, n8, c8, b8, h8⟩ := (S.mono hE).at 2 (w.heap.size) (IsI k1 z1) rfl; have L0 := b8.c0; have L1 := b8.c1; skip; intro K hK; go_simp; exact hK.out _ _ (Ext.refl _) h8 (FreshIf.no rfl) }) ?_
      refine RgAll.cons (by { intro v w' hE hd; simp only [layL, Act.put, List.setIfInBounds_toArray, List.set_cons_zero, List.set_cons_succ, Nat.reduceAdd]; obtain ⟨s8, a8, n8, c8, b8, h8⟩ := (S.mono hE).at 0 (g7) (IsI ks ((gk : Int))) rfl; have L0 := b8.c0; have L1 := b8.c1; skip; intro K hK; go_simp; exact hK.out _ _ (Ext.refl _) h8 (FreshIf.no rfl) }) ?_
      refine RgAll.cons (by { intro v w' hE hd; simp only [layL, Act.put, List.setIfInBounds_toArray, List.set_cons_zero, List.set_cons_succ, Nat.reduceAdd]; skip; skip; intro K hK; go_simp; exact hK.out _ _ (Ext.refl _) rfl (FreshIf.no rfl) }) ?_
      refine RgAll.cons (by { intro v w' hE hd; simp only [layL, Act.put, List.setIfInBounds_toArray, List.set_cons_zero, List.set_cons_succ, Nat.reduceAdd]; have d0 : v 2 = .int .i64 ((j : Int) + 1) := hd 2 (by kernel_rfl); have hw := HJ.out; rw [d0]; intro K hK; go_simp; exact hK.out _ _ (Ext.refl _) rfl (FreshIf.no rfl) }) ?_
      refine RgAll.cons (by { intro v w' hE hd; simp only [layL, Act.put, List.setIfInBounds_toArray, List.set_cons_zero, List.set_cons_succ, Nat.reduceAdd]; have d0 : (IsI ks ((gk : Int))) (v 1) w' := hd 1 (by kernel_rfl); have d1 : v 3 = .int .i64 (j : Int) := hd 3 (by kernel_rfl); rw [d1]; intro K hK; go_simp; go_at_call 47; go_split_ands; (with_reducible refine Calls.mono (power_f d0 j (by omega) (by omega)) ?_); rintro e w2 ⟨x, rfl, e2, hx⟩; exact hK.out _ _ e2 hx (FreshIf.no rfl) }) ?_
      refine RgAll.cons (by { intro v w' hE hd; simp only [layL, Act.put, List.setIfInBounds_toArray, List.set_cons_zero, List.set_cons_succ, Nat.reduceAdd]; have d0 : (IsI k1 z1) (v 0) w' := hd 0 (by kernel_rfl); have d1 : (IsI (ks * j + 1) ((gk : Int) ^ j)) (v 4) w' := hd 4 (by kernel_rfl); skip; intro K hK; go_simp; go_at_call 11; go_split_ands; (with_reducible refine Calls.mono (DivMod_f d0 d1 (by omega) (by omega) HP.out) ?_); rintro e w2 ⟨x, rfl, e2, hx⟩; exact hK.out _ _ e2 hx (FreshIf.no rfl) }) ?_
      refine RgAll.cons (by { intro v w' hE hd; simp only [layL, Act.put, List.setIfInBounds_toArray, List.set_cons_zero, List.set_cons_succ, Nat.reduceAdd]; have d0 : (IsT3 (IsI k1 (z1 / (gk : Int) ^ j)) (IsI (ks * j + 1) (z1 % (gk : Int) ^ j)) (IsV (.int .i64 0))) (v 5) w' := hd 5 (by kernel_rfl); skip; intro K hK; go_simp; exact hK.out _ _ (Ext.refl _) d0 (FreshIf.no rfl) }) ?_
      refine RgAll.cons (by { intro v w' hE hd; simp only [layL, Act.put, List.setIfInBounds_toArray, List.set_cons_zero, List.set_cons_succ, Nat.reduceAdd]; have d0 : (IsT3 (IsI k1 (z1 / (gk : Int) ^ j)) (IsI (ks * j + 1) (z1 % (gk : Int) ^ j)) (IsV (.int .i64 0))) (v 6) w' := hd 6 (by kernel_rfl); obtain ⟨x0, x1, x2, z0, y0, y1, y2⟩ := d0; rw [z0]; intro K hK; go_simp; exact hK.out _ _ (Ext.refl _) y0 (FreshIf.no rfl) }) ?_
      refine RgAll.cons (by { intro v w' hE hd; simp only [layL, Act.put, List.setIfInBounds_toArray, List.set_cons_zero, List.set_cons_succ, Nat.reduceAdd]; have d0 : (IsT3 (IsI k1 (z1 / (gk : Int) ^ j)) (IsI (ks * j + 1) (z1 % (gk : Int) ^ j)) (IsV (.int .i64 0))) (v 6) w' := hd 6 (by kernel_rfl); obtain ⟨x0, x1, x2, z0, y0, y1, y2⟩ := d0; rw [z0]; intro K hK; go_simp; exact hK.out _ _ (Ext.refl _) y1 (FreshIf.no rfl) }) ?_
      refine RgAll.cons (by { intro v w' hE hd; simp only [layL, Act.put, List.setIfInBounds_toArray, List.set_cons_zero, List.set_cons_succ, Nat.reduceAdd]; have d0 : (IsT3 (IsI k1 (z1 / (gk : Int) ^ j)) (IsI (ks * j + 1) (z1 % (gk : Int) ^ j)) (IsV (.int .i64 0))) (v 6) w' := hd 6 (by kernel_rfl); obtain ⟨x0, x1, x2, z0, y0, y1, y2⟩ := d0; rw [z0]; intro K hK; go_simp; exact hK.out _ _ (Ext.refl _) y2 (FreshIf.no rfl) }) ?_
      refine RgAll.cons (by { intro v w' hE hd; simp only [layL, Act.put, List.setIfInBounds_toArray, List.set_cons_zero, List.set_cons_succ, Nat.reduceAdd]; skip; skip; intro K hK; go_simp; refine hK.out _ _ ((Ext.refl _).alloc _) ⟨_, rfl, hE.size, Bx.new _ _ _ _ _⟩ FreshIf.yes }) ?_
      refine RgAll.cons (by { intro v w' hE hd; simp only [layL, Act.put, List.setIfInBounds_toArray, List.set_cons_zero, List.set_cons_succ, Nat.reduceAdd]; skip; skip; intro K hK; go_simp; refine hK.out _ _ ((Ext.refl _).alloc _) ⟨_, rfl, hE.size, Bx.new _ _ _ _ _⟩ FreshIf.yes }) ?_
      exact RgAll.nil
    intro v W1 e1 hΦ hne
    replace S := S.mono e1
    obtain ⟨s50, a50, n50, c50, v7, h50⟩ := (hΦ 7 (by decide) : IsI k1 (z1 / (gk : Int) ^ j) (v 7) W1)
    obtain ⟨s51, a51, n51, c51, v8, h51⟩ := (hΦ 8 (by decide) : IsI (ks * j + 1) (z1 % (gk : Int) ^ j) (v 8) W1)
    have v9 : v 9 = .int .i64 0 := hΦ 9 (by decide)
    obtain ⟨g8, v10, q2, b1⟩ := (hΦ 10 (by decide) : IsB wr (v 10) W1)
    replace S := S.addN (Apart.old hl.out q2) (Nat.le_trans hw q2) b1
    clear b1
    obtain ⟨g9, v11, q4, b3⟩ := (hΦ 11 (by decide) : IsB wr (v 11) W1)
    replace S := S.addN (Apart.cons (fun h => hne 10 11 (by decide) (by decide) (by decide) (by decide) (by decide) (by rw [v10, v11, h])) (Apart.old hl.out q4)) (Nat.le_trans hw q4) b3
    clear b3
    clear hne
    simp only [layL, Act.put, List.setIfInBounds_toArray, List.set_cons_zero, List.set_cons_succ, Nat.reduceAdd]
    rw [v7, v8, v9, v10, v11]
    clear v7 v8 v9 v10 v11
    clear hΦ
    clear hl hw
    clear e1
    obtain ⟨s8, a8, n8, c8, b8, _⟩ := S.at 1 (g8) (IsI 0 0) rfl; have F1 := b8.c0; have F2 := b8.c1; have F3 := b8.f0; have F4 := b8.f1
    refine wpAny_ready (rs := [12]) (by kernel_rfl) (by simp) (AllReady.cons rfl (fun K hK => ?_) AllReady.nil); go_simp; refine hK _ _ ?_; clear hK K
    clear F1 F2 F3 F4 b8
    obtain ⟨W2, hW, S2, G2, _⟩ := S.put 1 (g8) (IsI 0 0) (IsI k1 (z1 / (gk : Int) ^ j)) rfl s50 a50 n50 c50 (IsI.gstb _ _) ⟨_, _, _, _, rfl, h50⟩
    rw [← hW]; clear hW S
    replace h51 := h51.gr G2
    have S : St w W2 [(g9, IsI 0 0), (g8, IsI k1 (z1 / (gk : Int) ^ j)), (g7, IsI ks ((gk : Int))), (w.heap.size + 1, IsI 0 0), (w.heap.size, IsI k1 z1)] := S2; clear S2 G2
    clear h50
    obtain ⟨s8, a8, n8, c8, b8, _⟩ := S.at 0 (g9) (IsI 0 0) rfl; have F1 := b8.c0; have F2 := b8.c1; have F3 := b8.f0; have F4 := b8.f1
    refine wpAny_ready (rs := [13]) (by kernel_rfl) (by simp) (AllReady.cons rfl (fun K hK => ?_) AllReady.nil); go_simp; refine hK _ _ ?_; clear hK K
    clear F1 F2 F3 F4 b8
    obtain ⟨W3, hW, S2, G2, _⟩ := S.put 0 (g9) (IsI 0 0) (IsI (ks * j + 1) (z1 % (gk : Int) ^ j)) rfl s51 a51 n51 c51 (IsI.gstb _ _) ⟨_, _, _, _, rfl, h51⟩
    rw [← hW]; clear hW S
    have S : St w W3 [(g9, IsI (ks * j + 1) (z1 % (gk : Int) ^ j)), (g8, IsI k1 (z1 / (gk : Int) ^ j)), (g7, IsI ks ((gk : Int))), (w.heap.size + 1, IsI 0 0), (w.heap.size, IsI k1 z1)] := S2; clear S2 G2
    clear h51
    refine wpAny_ready (rs := [14]) (by kernel_rfl) (by simp) (AllReady.cons rfl (fun K hK => ?_) AllReady.nil); go_simp; refine hK _ _ ?_; clear hK K
    refine wpAny_done (by kernel_rfl) (NoPanic.normal ?_) _
    go_upto_region 10 with (fail)
    refine wp_region_rgO 14 [12, 13] [some 54, some 55, some 56, some 57, some 58, some 59, some 60, some 61, some 62, some 63, some 53, some 64, some 65, some 66] [IsI ks ((gk : Int)), IsV (.int .i64 ((j : Int) + 1)), IsV (.int .i64 (j : Int)), IsI 2 ((j : Int)), IsI (ks + 2) ((gk : Int) * (j : Int)), IsI k1 (z1 / (gk : Int) ^ j), IsI (max (ks + 2) k1 + 1) ((gk : Int) * (j : Int) + z1 / (gk : Int) ^ j), IsV (.int .i64 ((j : Int) + 1)), IsI 2 ((j : Int) + 1), IsT3 (IsI (max (ks + 2) k1 + 1) ((t : Int))) (IsI 2 (((gk : Int) * (j : Int) + z1 / (gk : Int) ^ j) % ((j : Int) + 1))) (IsV (.int .i64 0)), IsT3 (IsI (max (ks + 2) k1 + 1) ((t : Int))) (IsI 2 (((gk : Int) * (j : Int) + z1 / (gk : Int) ^ j) % ((j : Int) + 1))) (IsV (.int .i64 0)), IsI (max (ks + 2) k1 + 1) ((t : Int)), IsI 2 (((gk : Int) * (j : Int) + z1 / (gk : Int) ^ j) % ((j : Int) + 1)), IsV (.int .i64 0)] [] 1 (by kernel_rfl) (by decide) (by kernel_rfl) (by kernel_rfl) (by kernel_rfl) (by kernel_rfl) (by kernel_rfl) (by kernel_rfl) ?_ ?_ ?_ ?_ ?_
    · repeat' (first | exact trivial | exact IsV.stb _ | exact IsI.stb _ _ | exact IsB.stb _ | exact IsR.stb _ _ | exact IsMag.stb _ _ | exact IsPos.stb | apply IsT3.stb | apply IsT2.stb | apply And.intro)
    · exact (fun _ h => by cases h)
    · intro i hi; simp only [List.mem_cons, List.not_mem_nil, or_false] at hi; rcases hi with rfl | rfl
      · (intro v w' hE hd; have d0 : (IsT3 (IsI (max (ks + 2) k1 + 1) ((t : Int))) (IsI 2 (((gk : Int) * (j : Int) + z1 / (gk : Int) ^ j) % ((j : Int) + 1))) (IsV (.int .i64 0))) (v 10) w' := hd 10 (by kernel_rfl); obtain ⟨x0, x1, x2, z0, y0, y1, y2⟩ := d0; refine ⟨_, _, rfl, Or.inl ⟨by rfl, ?_⟩, y1⟩; intro w9; simp only [layL, Act.put, List.setIfInBounds_toArray, List.set_cons_zero, List.set_cons_succ, Nat.reduceAdd]; rw [z0]; go_simp)
      · (intro v w' hE hd; have d0 : (IsT3 (IsI (max (ks + 2) k1 + 1) ((t : Int))) (IsI 2 (((gk : Int) * (j : Int) + z1 / (gk : Int) ^ j) % ((j : Int) + 1))) (IsV (.int .i64 0))) (v 10) w' := hd 10 (by kernel_rfl); obtain ⟨x0, x1, x2, z0, y0, y1, y2⟩ := d0; refine ⟨_, _, rfl, Or.inl ⟨by rfl, ?_⟩, y2⟩; intro w9; simp only [layL, Act.put, List.setIfInBounds_toArray, List.set_cons_zero, List.set_cons_succ, Nat.reduceAdd]; rw [z0]; go_simp)
    · refine RgAll.cons (by { intro v w' hE hd; simp only [layL, Act.put, List.setIfInBounds_toArray, List.set_cons_zero, List.set_cons_succ, Nat.reduceAdd]; obtain ⟨s8, a8, n8, c8, b8, h8⟩ := (S.mono hE).at 2 (g7) (IsI ks ((gk : Int))) rfl; have L0 := b8.c0; have L1 := b8.c1; skip; intro K hK; go_simp; exact hK.out _ _ (Ext.refl _) h8 (FreshIf.no rfl) }) ?_
      refine RgAll.cons (by { intro v w' hE hd; simp only [layL, Act.put, List.setIfInBounds_toArray, List.set_cons_zero, List.set_cons_succ, Nat.reduceAdd]; skip; skip; intro K hK; go_simp; exact hK.out _ _ (Ext.refl _) rfl (FreshIf.no rfl) }) ?_
      refine RgAll.cons (by { intro v w' hE hd; simp only [layL, Act.put, List.setIfInBounds_toArray, List.set_cons_zero, List.set_cons_succ, Nat.reduceAdd]; have d0 : v 1 = .int .i64 ((j : Int) + 1) := hd 1 (by kernel_rfl); have hw := HJ.out; rw [d0]; intro K hK; go_simp; exact hK.out _ _ (Ext.refl _) rfl (FreshIf.no rfl) }) ?_
      refine RgAll.cons (by { intro v w' hE hd; simp only [layL, Act.put, List.setIfInBounds_toArray, List.set_cons_zero, List.set_cons_succ, Nat.reduceAdd]; have d0 : v 2 = .int .i64 (j : Int) := hd 2 (by kernel_rfl); rw [d0]; intro K hK; go_simp; go_at_call 23; go_split_ands; (with_reducible refine Calls.mono (Of_f _ (j : Int) (by omega) (by omega)) ?_); rintro e w2 ⟨x, rfl, e2, hx⟩; exact hK.out _ _ e2 hx (FreshIf.no rfl) }) ?_
      refine RgAll.cons (by { intro v w' hE hd; simp only [layL, Act.put, List.setIfInBounds_toArray, List.set_cons_zero, List.set_cons_succ, Nat.reduceAdd]; have d0 : (IsI ks ((gk : Int))) (v 0) w' := hd 0 (by kernel_rfl); have d1 : (IsI 2 ((j : Int))) (v 3) w' := hd 3 (by kernel_rfl); skip; intro K hK; go_simp; go_at_call 13; go_split_ands; (with_reducible refine Calls.mono (Mul_f d0 d1 (by omega) (by omega)) ?_); rintro e w2 ⟨x, rfl, e2, hx⟩; exact hK.out _ _ e2 hx (FreshIf.no rfl) }) ?_
      refine RgAll.cons (by { intro v w' hE hd; simp only [layL, Act.put, List.setIfInBounds_toArray, List.set_cons_zero, List.set_cons_succ, Nat.reduceAdd]; obtain ⟨s8, a8, n8, c8, b8, h8⟩ := (S.mono hE).at 1 (g8) (IsI k1 (z1 / (gk : Int) ^ j)) rfl; have L0 := b8.c0; have L1 := b8.c1; skip; intro K hK; go_simp; exact hK.out _ _ (Ext.refl _) h8 (FreshIf.no rfl) }) ?_
      refine RgAll.cons (by { intro v w' hE hd; simp only [layL, Act.put, List.setIfInBounds_toArray, List.set_cons_zero, List.set_cons_succ, Nat.reduceAdd]; have d0 : (IsI (ks + 2) ((gk : Int) * (j : Int))) (v 4) w' := hd 4 (by kernel_rfl); have d1 : (IsI k1 (z1 / (gk : Int) ^ j)) (v 5) w' := hd 5 (by kernel_rfl); skip; intro K hK; go_simp; go_at_call 12; go_split_ands; (with_reducible refine Calls.mono (Add_f d0 d1 (by omega) (by omega)) ?_); rintro e w2 ⟨x, rfl, e2, hx⟩; exact hK.out _ _ e2 hx (FreshIf.no rfl) }) ?_
      refine RgAll.cons (by { intro v w' hE hd; simp only [layL, Act.put, List.setIfInBounds_toArray, List.set_cons_zero, List.set_cons_succ, Nat.reduceAdd]; skip; skip; intro K hK; go_simp; exact hK.out _ _ (Ext.refl _) rfl (FreshIf.no rfl) }) ?_
      refine RgAll.cons (by { intro v w' hE hd; simp only [layL, Act.put, List.setIfInBounds_toArray, List.set_cons_zero, List.set_cons_succ, Nat.reduceAdd]; have d0 : v 7 = .int .i64 ((j : Int) + 1) := hd 7 (by kernel_rfl); rw [d0]; intro K hK; go_simp; go_at_call 23; go_split_ands; (with_reducible refine Calls.mono (Of_f _ ((j : Int) + 1) (by omega) (by omega)) ?_); rintro e w2 ⟨x, rfl, e2, hx⟩; exact hK.out _ _ e2 hx (FreshIf.no rfl) }) ?_
      refine RgAll.cons (by { intro v w' hE hd; simp only [layL, Act.put, List.setIfInBounds_toArray, List.set_cons_zero, List.set_cons_succ, Nat.reduceAdd]; have d0 : (IsI (max (ks + 2) k1 + 1) ((gk : Int) * (j : Int) + z1 / (gk : Int) ^ j)) (v 6) w' := hd 6 (by kernel_rfl); have d1 : (IsI 2 ((j : Int) + 1)) (v 8) w' := hd 8 (by kernel_rfl); skip; intro K hK; go_simp; go_at_call 11; go_split_ands; (with_reducible refine Calls.mono (Calls.mono (DivMod_f d0 d1 (by omega) (by omega) (by omega)) fun _ _ h => (by have hh := h; rw [HT.out] at hh; exact hh)) ?_); rintro e w2 ⟨x, rfl, e2, hx⟩; exact hK.out _ _ e2 hx (FreshIf.no rfl) }) ?_
      refine RgAll.cons (by { intro v w' hE hd; simp only [layL, Act.put, List.setIfInBounds_toArray, List.set_cons_zero, List.set_cons_succ, Nat.reduceAdd]; have d0 : (IsT3 (IsI (max (ks + 2) k1 + 1) ((t : Int))) (IsI 2 (((gk : Int) * (j : Int) + z1 / (gk : Int) ^ j) % ((j : Int) + 1))) (IsV (.int .i64 0))) (v 9) w' := hd 9 (by kernel_rfl); skip; intro K hK; go_simp; exact hK.out _ _ (Ext.refl _) d0 (FreshIf.no rfl) }) ?_
      refine RgAll.cons (by { intro v w' hE hd; simp only [layL, Act.put, List.setIfInBounds_toArray, List.set_cons_zero, List.set_cons_succ, Nat.reduceAdd]; have d0 : (IsT3 (IsI (max (ks + 2) k1 + 1) ((t : Int))) (IsI 2 (((gk : Int) * (j : Int) + z1 / (gk : Int) ^ j) % ((j : Int) + 1))) (IsV (.int .i64 0))) (v 10) w' := hd 10 (by kernel_rfl); obtain ⟨x0, x1, x2, z0, y0, y1, y2⟩ := d0; rw [z0]; intro K hK; go_simp; exact hK.out _ _ (Ext.refl _) y0 (FreshIf.no rfl) }) ?_
      refine RgAll.cons (by { intro v w' hE hd; simp only [layL, Act.put, List.setIfInBounds_toArray, List.set_cons_zero, List.set_cons_succ, Nat.reduceAdd]; have d0 : (IsT3 (IsI (max (ks + 2) k1 + 1) ((t : Int))) (IsI 2 (((gk : Int) * (j : Int) + z1 / (gk : Int) ^ j) % ((j : Int) + 1))) (IsV (.int .i64 0))) (v 10) w' := hd 10 (by kernel_rfl); obtain ⟨x0, x1, x2, z0, y0, y1, y2⟩ := d0; rw [z0]; intro K hK; go_simp; exact hK.out _ _ (Ext.refl _) y1 (FreshIf.no rfl) }) ?_
      refine RgAll.cons (by { intro v w' hE hd; simp only [layL, Act.put, List.setIfInBounds_toArray, List.set_cons_zero, List.set_cons_succ, Nat.reduceAdd]; have d0 : (IsT3 (IsI (max (ks + 2) k1 + 1) ((t : Int))) (IsI 2 (((gk : Int) * (j : Int) + z1 / (gk : Int) ^ j) % ((j : Int) + 1))) (IsV (.int .i64 0))) (v 10) w' := hd 10 (by kernel_rfl); obtain ⟨x0, x1, x2, z0, y0, y1, y2⟩ := d0; rw [z0]; intro K hK; go_simp; exact hK.out _ _ (Ext.refl _) y2 (FreshIf.no rfl) }) ?_
      exact RgAll.nil
    intro v W4 e1 hΦ _
    replace S := S.mono e1
    obtain ⟨s64, a64, n64, c64, v11, h64⟩ := (hΦ 11 (by decide) : IsI (max (ks + 2) k1 + 1) ((t : Int)) (v 11) W4)
    simp only [layL, Act.put, List.setIfInBounds_toArray, List.set_cons_zero, List.set_cons_succ, Nat.reduceAdd]
    rw [v11]
    clear v11
    clear hΦ
    clear e1
    obtain ⟨s8, a8, n8, c8, b8, _⟩ := S.at 1 (g8) (IsI k1 (z1 / (gk : Int) ^ j)) rfl; have F1 := b8.c0; have F2 := b8.c1; have F3 := b8.f0; have F4 := b8.f1
    refine wpAny_ready (rs := [14]) (by kernel_rfl) (by simp) (AllReady.cons rfl (fun K hK => ?_) AllReady.nil); go_simp; refine hK _ _ ?_; clear hK K
    clear F1 F2 F3 F4 b8
    obtain ⟨W5, hW, S2, G2, _⟩ := S.put 1 (g8) (IsI k1 (z1 / (gk : Int) ^ j)) (IsI (max (ks + 2) k1 + 1) ((t : Int))) rfl s64 a64 n64 c64 (IsI.gstb _ _) ⟨_, _, _, _, rfl, h64⟩
    rw [← hW]; clear hW S
    have S : St w W5 [(g9, IsI (ks * j + 1) (z1 % (gk : Int) ^ j)), (g8, IsI (max (ks + 2) k1 + 1) ((t : Int))), (g7, IsI ks ((gk : Int))), (w.heap.size + 1, IsI 0 0), (w.heap.size, IsI k1 z1)] := S2; clear S2 G2
    clear h64
    refine wpAny_done (by kernel_rfl) (NoPanic.normal ?_) _
    go_upto_region 11 with (fail)
    refine wp_region_rgs 4 [some 67, some 68, some 69, some 70] [IsI (max (ks + 2) k1 + 1) ((t : Int)), IsI ks ((gk : Int)), IsV (.int .i64 (cmpI (t : Int) (gk : Int))), IsV (.bool (decide (0 ≤ cmpI (t : Int) (gk : Int))))] [] (by decide) (by kernel_rfl) (by kernel_rfl) (by kernel_rfl) ?_ ?_ ?_ ?_
    · repeat' (first | exact trivial | exact IsV.stb _ | exact IsI.stb _ _ | exact IsB.stb _ | exact IsR.stb _ _ | exact IsMag.stb _ _ | exact IsPos.stb | apply IsT3.stb | apply IsT2.stb | apply And.intro)
    · exact (fun _ h => by cases h)
    · refine RgAll.cons (by { intro v w' hE hd; simp only [layL, Act.put, List.setIfInBounds_toArray, List.set_cons_zero, List.set_cons_succ, Nat.reduceAdd]; obtain ⟨s8, a8, n8, c8, b8, h8⟩ := (S.mono hE).at 1 (g8) (IsI (max (ks + 2) k1 + 1) ((t : Int))) rfl; have L0 := b8.c0; have L1 := b8.c1; skip; intro K hK; go_simp; exact hK.out _ _ (Ext.refl _) h8 (FreshIf.no rfl) }) ?_
      refine RgAll.cons (by { intro v w' hE hd; simp only [layL, Act.put, List.setIfInBounds_toArray, List.set_cons_zero, List.set_cons_succ, Nat.reduceAdd]; obtain ⟨s8, a8, n8, c8, b8, h8⟩ := (S.mono hE).at 2 (g7) (IsI ks ((gk : Int))) rfl; have L0 := b8.c0; have L1 := b8.c1; skip; intro K hK; go_simp; exact hK.out _ _ (Ext.refl _) h8 (FreshIf.no rfl) }) ?_
      refine RgAll.cons (by { intro v w' hE hd; simp only [layL, Act.put, List.setIfInBounds_toArray, List.set_cons_zero, List.set_cons_succ, Nat.reduceAdd]; have d0 : (IsI (max (ks + 2) k1 + 1) ((t : Int))) (v 0) w' := hd 0 (by kernel_rfl); have d1 : (IsI ks ((gk : Int))) (v 1) w' := hd 1 (by kernel_rfl); skip; intro K hK; go_simp; go_at_call 16; go_split_ands; (with_reducible refine Calls.mono (Cmp_f d0 d1 (by omega) (by omega)) ?_); rintro e w2 ⟨x, rfl, e2, hx⟩; exact hK.out _ _ e2 hx (FreshIf.no rfl) }) ?_
      refine RgAll.cons (by { intro v w' hE hd; simp only [layL, Act.put, List.setIfInBounds_toArray, List.set_cons_zero, List.set_cons_succ, Nat.reduceAdd]; have d0 : v 2 = .int .i64 (cmpI (t : Int) (gk : Int)) := hd 2 (by kernel_rfl); rw [d0]; intro K hK; go_simp; exact hK.out _ _ (Ext.refl _) rfl (FreshIf.no rfl) }) ?_
      exact RgAll.nil
    intro v W6 e1 hΦ _
    replace S := S.mono e1
    have v3 : v 3 = .bool (decide (0 ≤ cmpI (t : Int) (gk : Int))) := hΦ 3 (by decide)
    simp only [layL, Act.put, List.setIfInBounds_toArray, List.set_cons_zero, List.set_cons_succ, Nat.reduceAdd]
    rw [v3]
    clear v3
    clear hΦ
    clear e1
    refine wpList_nil ?_
    by_cases hts : gk ≤ t
    · have hd : decide ((0 : Int) ≤ cmpI (t : Int) (gk : Int)) = true := by
        rw [decide_eq_true_iff, cmpI]; repeat' split
        all_goals omega
      have HR := hid (HF.out hts)
      clear hts
      rw [hd]
      clear hd
      go_upto_region 12 with (fail)
      refine wp_region_rgs 1 [some 71] [IsI ks ((gk : Int))] [] (by decide) (by kernel_rfl) (by kernel_rfl) (by kernel_rfl) ?_ ?_ ?_ ?_
      · repeat' (first | exact trivial | exact IsV.stb _ | exact IsI.stb _ _ | exact IsB.stb _ | exact IsR.stb _ _ | exact IsMag.stb _ _ | exact IsPos.stb | apply IsT3.stb | apply IsT2.stb | apply And.intro)
      · exact (fun _ h => by cases h)
      · refine RgAll.cons (by { intro v w' hE hd; simp only [layL, Act.put, List.setIfInBounds_toArray, List.set_cons_zero, List.set_cons_succ]; obtain ⟨s8, a8, n8, c8, b8, h8⟩ := (S.mono hE).at 2 (g7) (IsI ks ((gk : Int))) rfl; have L0 := b8.c0; have L1 := b8.c1; skip; intro K hK; go_simp; exact hK.out _ _ (Ext.refl _) h8 (FreshIf.no rfl) }) ?_
        exact RgAll.nil
      intro v W7 e1 hΦ _
      replace S := S.mono e1
      obtain ⟨s71, a71, n71, c71, v0, h71⟩ := (hΦ 0 (by decide) : IsI ks ((gk : Int)) (v 0) W7)
      simp only [layL, Act.put, List.setIfInBounds_toArray, List.set_cons_zero, List.set_cons_succ]
      rw [v0]
      clear v0
      clear hΦ
      clear e1
      obtain ⟨s8, a8, n8, c8, b8, _⟩ := S.at 3 (w.heap.size + 1) (IsI 0 0) rfl; have F1 := b8.c0; have F2 := b8.c1; have F3 := b8.f0; have F4 := b8.f1
      refine wpList_step fun K hK => ?_; go_simp; refine hK _ _ ?_; clear hK K
      clear F1 F2 F3 F4 b8
      obtain ⟨W8, hW, S2, G2, _⟩ := S.put 3 (w.heap.size + 1) (IsI 0 0) (IsI ks ((gk : Int))) rfl s71 a71 n71 c71 (IsI.gstb _ _) ⟨_, _, _, _, rfl, h71⟩
      rw [← hW]; clear hW S
      have S : St w W8 [(g9, IsI (ks * j + 1) (z1 % (gk : Int) ^ j)), (g8, IsI (max (ks + 2) k1 + 1) ((t : Int))), (g7, IsI ks ((gk : Int))), (w.heap.size + 1, IsI ks ((gk : Int))), (w.heap.size, IsI k1 z1)] := S2; clear S2 G2
      clear h71
      refine wpList_step fun K hK => ?_; go_simp; refine hK _ _ ?_; clear hK K
      refine wpList_nil ?_
      go_wp2_with fail
      obtain ⟨s8, a8, n8, c8, b8, h8⟩ := S.at 3 (w.heap.size + 1) (IsI ks (gk : Int)) rfl
      have T0 := b8.c0; have T1 := b8.c1
      exact bodyPost_ret (v := .tuple #[.agg #[.bool s8, .slice a8 n8 c8], .int .i64 0]) (by simp [results, Tryd.results21, go_sem, T0, T1]) rfl ⟨gk, HR.out, _, rfl, S.ext, _, _, rfl, h8, rfl⟩
    · have hd : decide ((0 : Int) ≤ cmpI (t : Int) (gk : Int)) = false := by
        rw [decide_eq_false_iff_not, cmpI]; repeat' split
        all_goals omega
      rw [hd]
      clear hd
      go_upto_region 13 with (fail)
      refine wp_region_rgs 1 [some 72] [IsI (max (ks + 2) k1 + 1) ((t : Int))] [] (by decide) (by kernel_rfl) (by kernel_rfl) (by kernel_rfl) ?_ ?_ ?_ ?_
      · repeat' (first | exact trivial | exact IsV.stb _ | exact IsI.stb _ _ | exact IsB.stb _ | exact IsR.stb _ _ | exact IsMag.stb _ _ | exact IsPos.stb | apply IsT3.stb | apply IsT2.stb | apply And.intro)
      · exact (fun _ h => by cases h)
      · refine RgAll.cons (by { intro v w' hE hd; simp only [layL, Act.put, List.setIfInBounds_toArray, List.set_cons_zero, List.set_cons_succ]; obtain ⟨s8, a8, n8, c8, b8, h8⟩ := (S.mono hE).at 1 (g8) (IsI (max (ks + 2) k1 + 1) ((t : Int))) rfl; have L0 := b8.c0; have L1 := b8.c1; skip; intro K hK; go_simp; exact hK.out _ _ (Ext.refl _) h8 (FreshIf.no rfl) }) ?_
        exact RgAll.nil
      intro v W7 e1 hΦ _
      replace S := S.mono e1
      obtain ⟨s72, a72, n72, c72, v0, h72⟩ := (hΦ 0 (by decide) : IsI (max (ks + 2) k1 + 1) ((t : Int)) (v 0) W7)
      simp only [layL, Act.put, List.setIfInBounds_toArray, List.set_cons_zero, List.set_cons_succ]
      rw [v0]
      clear v0
      clear hΦ
      clear e1
      obtain ⟨s8, a8, n8, c8, b8, _⟩ := S.at 2 (g7) (IsI ks ((gk : Int))) rfl; have F1 := b8.c0; have F2 := b8.c1; have F3 := b8.f0; have F4 := b8.f1
      refine wpList_step fun K hK => ?_; go_simp; refine hK _ _ ?_; clear hK K
      clear F1 F2 F3 F4 b8
      obtain ⟨W8, hW, S2, G2, _⟩ := S.put 2 (g7) (IsI ks ((gk : Int))) (IsI (max (ks + 2) k1 + 1) ((t : Int))) rfl s72 a72 n72 c72 (IsI.gstb _ _) ⟨_, _, _, _, rfl, h72⟩
      rw [← hW]; clear hW S
      have S : St w W8 [(g9, IsI (ks * j + 1) (z1 % (gk : Int) ^ j)), (g8, IsI (max (ks + 2) k1 + 1) ((t : Int))), (g7, IsI (max (ks + 2) k1 + 1) ((t : Int))), (w.heap.size + 1, IsI 0 0), (w.heap.size, IsI k1 z1)] := S2; clear S2 G2
      clear h72
      refine wpList_nil ?_
      have I' : RootI w k1 ks z1 j g7 t W8 := ⟨(S.weaken 2 g7 (IsI (max (ks + 2) k1 + 1) (t : Int)) (IsI ks (t : Int)) rfl (IsI.gstb _ _) (fun x hx => hx.tight (by have := HK.out; omega))).tail.tail, HU.out⟩
      have I' := hid I'
      clear S
      go_wp2_with fail
      go_roundg t
      case measure => omega
      case rel => exact I'
end Go.Proofs.YtpflfagjkmeeiaaDoor
namespace Go.Proofs.YtpflfagjkmeeiaaDoor
open Go Go.RowKit

theorem IsRoot.le {m k r : Nat} (h : IsRoot m k r) (hk : 1 ≤ k) : r ≤ m := by
  rcases Nat.eq_zero_or_pos r with h0 | h0
  · omega
  · have h1 : r ^ 1 ≤ r ^ k := Nat.pow_le_pow_right h0 hk
    rw [Nat.pow_one] at h1
    have := h.1; omega
theorem bitLen_le (m k : Nat) (h : m < 4294967296 ^ k) : bitLen m ≤ 32 * k := by
  rcases Nat.eq_zero_or_pos m with h0 | h0
  · subst h0; simp [bitLen]
  · obtain ⟨b, hb, h1, _⟩ := bitLen_bounds m (by omega)
    rw [show (4294967296 : Nat) = 2 ^ 32 from rfl, ← Nat.pow_mul] at h
    have h2 : 2 ^ b < 2 ^ (32 * k) := by omega
    have := (Nat.pow_lt_pow_iff_right (by decide : 1 < 2)).1 h2
    omega

theorem Rootneg_f {k1 : Nat} {z1 : Int} {x : Value} {w : World} (hx : IsI k1 z1 x w) (l1 : k1 ≤ 1048576) (k : Int) (h : z1 < 0 ∨ k < 1) :
    Calls Tryd.prog 21 #[x, .int .i64 k] w (Ret w (IsT2 (IsI 0 0) (IsV (.int .i64 1)))) := by
  obtain ⟨s, a, n, c, rfl, h1⟩ := hx
  exact Root_neg w s a n c k1 z1 h1 l1 k (h.imp h1.neg_iff.1 id)
theorem Root_f {k1 : Nat} {z1 : Int} {x : Value} {w : World} (hx : IsI k1 z1 x w) (l1 : k1 ≤ 1048576) (h0 : 0 ≤ z1) (k : Nat) (hk : 1 ≤ k) (hhi : k ≤ 9223372036854775807) (r : Nat) (hr : IsRoot z1.natAbs k r) :
    Calls Tryd.prog 21 #[x, .int .i64 k] w (Ret w (IsT2 (IsI k1 (r : Int)) (IsV (.int .i64 0)))) := by
  obtain ⟨s, a, n, c, rfl, h1⟩ := hx
  have hsz := h1.size
  have hle := hr.le hk
  have hrb : (r : Int).natAbs < 4294967296 ^ k1 := by rw [Int.natAbs_natCast]; omega
  have hs : s = false := by
    cases s
    · rfl
    · have := h1.neg_iff.2 rfl; omega
  subst hs
  by_cases hc : z1 = 0 ∨ k = 1
  · have hz : z1 = (r : Int) := by
      rcases hc with rfl | rfl
      · have := hle; simp at this; omega
      · have h2 := hr.1; have h3 := hr.2; rw [Nat.pow_one] at h2 h3; omega
    rw [← hz]
    exact Root_self w a n c k1 z1 h1 l1 k hk hc hhi
  · have hz : 0 < z1 := by
      rcases Int.lt_or_eq_of_le h0 with h | h
      · exact h
      · exact absurd (Or.inl h.symm) hc
    have hk2 : 2 ≤ k := by
      rcases Nat.lt_or_ge k 2 with h | h
      · exact absurd (Or.inr (by omega)) hc
      · exact h
    have hb := bitLen_le _ _ hsz
    by_cases hkn : bitLen z1.natAbs ≤ k
    · have h1r : IsRoot z1.natAbs k 1 := by
        refine ⟨by rw [Nat.one_pow]; omega, ?_⟩
        obtain ⟨b, h2, _, h4⟩ := bitLen_bounds z1.natAbs (by omega)
        exact Nat.lt_of_lt_of_le h4 (Nat.pow_le_pow_right (by decide) (by omega))
      have := h1r.uniq hr
      subst this
      refine Calls.mono (Root_one w a n c k1 z1 h1 l1 k hk2 (by omega) hkn hhi) fun _ _ h => h.mono fun _ _ ⟨u, v, h2, h3, h4⟩ => ⟨u, v, h2, ?_, h4⟩
      exact h3.tight hrb
    · obtain ⟨j, rfl⟩ : ∃ j, k = j + 1 := ⟨k - 1, by omega⟩
      refine Calls.mono (Root_main w a n c k1 z1 h1 l1 j _ _ _ (by omega) hz rfl (by omega) (by omega) rfl rfl) fun _ _ ⟨r', h2, h⟩ => ?_
      have := h2.uniq hr
      subst this
      exact h.mono fun _ _ ⟨u, v, h2, h3, h4⟩ => ⟨u, v, h2, h3.tight hrb, h4⟩

set_option maxRecDepth 100000 in
theorem Sqrt_c (w : World) (s1 : Bool) (a1 : Option Addr) (n1 c1 k1 : Nat) (z1 : Int) (h1 : IntAt w k1 s1 a1 n1 c1 z1) (l1 : k1 ≤ 1048576) (h0 : 0 ≤ z1) (r : Nat) (hr : IsRoot z1.natAbs 2 r) :
    Calls Tryd.prog 24 #[.agg #[.bool s1, .slice a1 n1 c1]] w (Ret w (IsT3 (IsI k1 (r : Int)) (IsI k1 (z1 - (r : Int) * (r : Int))) (IsV (.int .i64 0)))) := by
  have H0 := hid h0
  have HR := hid hr
  have HS := hid (show (z1 - (r : Int) * (r : Int)).natAbs < 4294967296 ^ k1 by
    have h2 := h1.size
    have h3 := hr.1
    rw [Nat.pow_two] at h3
    have h4 : (r : Int) * (r : Int) = ((r * r : Nat) : Int) := by simp
    rw [h4]
    generalize r * r = q at *
    omega)
  clear h0 hr
  obtain ⟨W, hW, S⟩ : ∃ W, W = ((w.alloc (.cells #[.bool s1, .slice a1 n1 c1] 27)).alloc (.cells #[.bool false, .slice none 0 0] 27)).alloc (.cells #[.bool false, .slice none 0 0] 27) ∧ St w W [(w.heap.size + 1 + 1, IsI 0 0), (w.heap.size + 1, IsI 0 0), (w.heap.size, IsI k1 z1)] := ⟨_, rfl, ((((St.start w).new' (w.heap.size) (by simp) s1 a1 n1 c1 27 (IsI k1 z1) (IsI.gstb _ _) ⟨_, _, _, _, rfl, h1⟩).new' (w.heap.size + 1) (by simp) false none 0 0 27 (IsI 0 0) (IsI.gstb _ _) (IsI.nil _ _)).new' (w.heap.size + 1 + 1) (by simp) false none 0 0 27 (IsI 0 0) (IsI.gstb _ _) (IsI.nil _ _))⟩
  clear h1
  go_enter Tryd.func24, Tryd.ntmps24
  go_upto_region 1 with (fail)
  rw [← hW]
  clear hW
  have hl := hid S.lt; have hw := S.ext.size
  refine wp_region_rgs 6 [some 8, some 9, some 7, some 10, some 11, some 5] [IsI k1 z1, IsT2 (IsI k1 ((r : Int))) (IsV (.int .i64 0)), IsT2 (IsI k1 ((r : Int))) (IsV (.int .i64 0)), IsI k1 ((r : Int)), IsV (.int .i64 0), IsB W] [5] (by decide) (by kernel_rfl) (by kernel_rfl) (by kernel_rfl) ?_ ?_ ?_ ?_
  · repeat' (first | exact trivial | exact IsV.stb _ | exact IsI.stb _ _ | exact IsB.stb _ | exact IsR.stb _ _ | exact IsMag.stb _ _ | exact IsPos.stb | apply IsT3.stb | apply IsT2.stb | apply And.intro)
  · intro i hi; simp only [List.mem_cons, List.not_mem_nil, or_false] at hi; subst hi; exact IsB.box _
  · refine RgAll.cons (by { intro v w' hE hd; simp only [layL, Act.put, List.setIfInBounds_toArray, List.set_cons_zero, List.set_cons_succ, Nat.reduceAdd]; obtain ⟨s8, a8, n8, c8, b8, h8⟩ := (S.mono hE).at 2 (w.heap.size) (IsI k1 z1) rfl; have L0 := b8.c0; have L1 := b8.c1; skip; intro K hK; go_simp; exact hK.out _ _ (Ext.refl _) h8 (FreshIf.no rfl) }) ?_
    refine RgAll.cons (by { intro v w' hE hd; simp only [layL, Act.put, List.setIfInBounds_toArray, List.set_cons_zero, List.set_cons_succ, Nat.reduceAdd]; have d0 : (IsI k1 z1) (v 0) w' := hd 0 (by kernel_rfl); skip; intro K hK; go_simp; go_at_call 21; go_split_ands; (with_reducible refine Calls.mono (Root_f d0 l1 H0.out 2 (by decide) (by decide) r HR.out) ?_); rintro e w2 ⟨x, rfl, e2, hx⟩; exact hK.out _ _ e2 hx (FreshIf.no rfl) }) ?_
    refine RgAll.cons (by { intro v w' hE hd; simp only [layL, Act.put, List.setIfInBounds_toArray, List.set_cons_zero, List.set_cons_succ, Nat.reduceAdd]; have d0 : (IsT2 (IsI k1 ((r : Int))) (IsV (.int .i64 0))) (v 1) w' := hd 1 (by kernel_rfl); skip; intro K hK; go_simp; exact hK.out _ _ (Ext.refl _) d0 (FreshIf.no rfl) }) ?_
    refine RgAll.cons (by { intro v w' hE hd; simp only [layL, Act.put, List.setIfInBounds_toArray, List.set_cons_zero, List.set_cons_succ, Nat.reduceAdd]; have d0 : (IsT2 (IsI k1 ((r : Int))) (IsV (.int .i64 0))) (v 2) w' := hd 2 (by kernel_rfl); obtain ⟨x0, x1, z0, y0, y1⟩ := d0; rw [z0]; intro K hK; go_simp; exact hK.out _ _ (Ext.refl _) y0 (FreshIf.no rfl) }) ?_
    refine RgAll.cons (by { intro v w' hE hd; simp only [layL, Act.put, List.setIfInBounds_toArray, List.set_cons_zero, List.set_cons_succ, Nat.reduceAdd]; have d0 : (IsT2 (IsI k1 ((r : Int))) (IsV (.int .i64 0))) (v 2) w' := hd 2 (by kernel_rfl); obtain ⟨x0, x1, z0, y0, y1⟩ := d0; rw [z0]; intro K hK; go_simp; exact hK.out _ _ (Ext.refl _) y1 (FreshIf.no rfl) }) ?_
    refine RgAll.cons (by { intro v w' hE hd; simp only [layL, Act.put, List.setIfInBounds_toArray, List.set_cons_zero, List.set_cons_succ, Nat.reduceAdd]; skip; skip; intro K hK; go_simp; refine hK.out _ _ ((Ext.refl _).alloc _) ⟨_, rfl, hE.size, Bx.new _ _ _ _ _⟩ FreshIf.yes }) ?_
    exact RgAll.nil
  intro v W1 e1 hΦ _
  replace S := S.mono e1
  obtain ⟨s10, a10, n10, c10, v3, h10⟩ := (hΦ 3 (by decide) : IsI k1 ((r : Int)) (v 3) W1)
  have v4 : v 4 = .int .i64 0 := hΦ 4 (by decide)
  obtain ⟨g5, v5, q2, b1⟩ := (hΦ 5 (by decide) : IsB W (v 5) W1)
  replace S := S.addN (Apart.old hl.out q2) (Nat.le_trans hw q2) b1
  clear b1
  simp only [layL, Act.put, List.setIfInBounds_toArray, List.set_cons_zero, List.set_cons_succ, Nat.reduceAdd]
  rw [v3, v4, v5]
  clear v3 v4 v5
  clear hΦ
  clear hl hw
  clear e1
  obtain ⟨s8, a8, n8, c8, b8, _⟩ := S.at 0 (g5) (IsI 0 0) rfl; have F1 := b8.c0; have F2 := b8.c1; have F3 := b8.f0; have F4 := b8.f1
  refine wpList_step fun K hK => ?_; go_simp; refine hK _ _ ?_; clear hK K
  clear F1 F2 F3 F4 b8
  obtain ⟨W2, hW, S2, G2, _⟩ := S.put 0 (g5) (IsI 0 0) (IsI k1 ((r : Int))) rfl s10 a10 n10 c10 (IsI.gstb _ _) ⟨_, _, _, _, rfl, h10⟩
  rw [← hW]; clear hW S
  have S : St w W2 [(g5, IsI k1 ((r : Int))), (w.heap.size + 1 + 1, IsI 0 0), (w.heap.size + 1, IsI 0 0), (w.heap.size, IsI k1 z1)] := S2; clear S2 G2
  clear h10
  refine wpList_step fun K hK => ?_; go_simp; refine hK _ _ ?_; clear hK K
  refine wpList_nil ?_
  go_upto_region 4 with (fail)
  refine wp_region_rg 6 [some 17, some 18, some 19, some 20, some 21, some 22] [IsI k1 ((r : Int)), IsI k1 z1, IsI k1 ((r : Int)), IsI k1 ((r : Int)), IsI (k1 + k1) ((r : Int) * (r : Int)), IsI k1 (z1 - (r : Int) * (r : Int))] [] 3 (by kernel_rfl) (by decide) (by kernel_rfl) (by kernel_rfl) (by kernel_rfl) (by kernel_rfl) (by kernel_rfl) ?_ ?_ ?_ ?_
  · repeat' (first | exact trivial | exact IsV.stb _ | exact IsI.stb _ _ | exact IsB.stb _ | exact IsR.stb _ _ | exact IsMag.stb _ _ | exact IsPos.stb | apply IsT3.stb | apply IsT2.stb | apply And.intro)
  · exact (fun _ h => by cases h)
  · refine RgAll.cons (by { intro v w' hE hd; simp only [layL, Act.put, List.setIfInBounds_toArray, List.set_cons_zero, List.set_cons_succ, Nat.reduceAdd]; obtain ⟨s8, a8, n8, c8, b8, h8⟩ := (S.mono hE).at 0 (g5) (IsI k1 ((r : Int))) rfl; have L0 := b8.c0; have L1 := b8.c1; skip; intro K hK; go_simp; exact hK.out _ _ (Ext.refl _) h8 (FreshIf.no rfl) }) ?_
    refine RgAll.cons (by { intro v w' hE hd; simp only [layL, Act.put, List.setIfInBounds_toArray, List.set_cons_zero, List.set_cons_succ, Nat.reduceAdd]; obtain ⟨s8, a8, n8, c8, b8, h8⟩ := (S.mono hE).at 3 (w.heap.size) (IsI k1 z1) rfl; have L0 := b8.c0; have L1 := b8.c1; skip; intro K hK; go_simp; exact hK.out _ _ (Ext.refl _) h8 (FreshIf.no rfl) }) ?_
    refine RgAll.cons (by { intro v w' hE hd; simp only [layL, Act.put, List.setIfInBounds_toArray, List.set_cons_zero, List.set_cons_succ, Nat.reduceAdd]; obtain ⟨s8, a8, n8, c8, b8, h8⟩ := (S.mono hE).at 0 (g5) (IsI k1 ((r : Int))) rfl; have L0 := b8.c0; have L1 := b8.c1; skip; intro K hK; go_simp; exact hK.out _ _ (Ext.refl _) h8 (FreshIf.no rfl) }) ?_
    refine RgAll.cons (by { intro v w' hE hd; simp only [layL, Act.put, List.setIfInBounds_toArray, List.set_cons_zero, List.set_cons_succ, Nat.reduceAdd]; obtain ⟨s8, a8, n8, c8, b8, h8⟩ := (S.mono hE).at 0 (g5) (IsI k1 ((r : Int))) rfl; have L0 := b8.c0; have L1 := b8.c1; skip; intro K hK; go_simp; exact hK.out _ _ (Ext.refl _) h8 (FreshIf.no rfl) }) ?_
    refine RgAll.cons (by { intro v w' hE hd; simp only [layL, Act.put, List.setIfInBounds_toArray, List.set_cons_zero, List.set_cons_succ, Nat.reduceAdd]; have d0 : (IsI k1 ((r : Int))) (v 2) w' := hd 2 (by kernel_rfl); have d1 : (IsI k1 ((r : Int))) (v 3) w' := hd 3 (by kernel_rfl); skip; intro K hK; go_simp; go_at_call 13; go_split_ands; (with_reducible refine Calls.mono (Mul_f d0 d1 (by omega) (by omega)) ?_); rintro e w2 ⟨x, rfl, e2, hx⟩; exact hK.out _ _ e2 hx (FreshIf.no rfl) }) ?_
    refine RgAll.cons (by { intro v w' hE hd; simp only [layL, Act.put, List.setIfInBounds_toArray, List.set_cons_zero, List.set_cons_succ, Nat.reduceAdd]; have d0 : (IsI k1 z1) (v 1) w' := hd 1 (by kernel_rfl); have d1 : (IsI (k1 + k1) ((r : Int) * (r : Int))) (v 4) w' := hd 4 (by kernel_rfl); skip; intro K hK; go_simp; go_at_call 22; go_split_ands; (with_reducible refine Calls.mono (Calls.mono (Sub_f d0 d1 (by omega) (by omega)) fun _ _ h => h.mono fun _ _ h => h.tight (k' := k1) HS.out) ?_); rintro e w2 ⟨x, rfl, e2, hx⟩; exact hK.out _ _ e2 hx (FreshIf.no rfl) }) ?_
    exact RgAll.nil
  intro v W3 e1 hΦ _
  replace S := S.mono e1
  obtain ⟨s17, a17, n17, c17, v0, h17⟩ := (hΦ 0 (by decide) : IsI k1 ((r : Int)) (v 0) W3)
  obtain ⟨s22, a22, n22, c22, v5, h22⟩ := (hΦ 5 (by decide) : IsI k1 (z1 - (r : Int) * (r : Int)) (v 5) W3)
  simp only [layL, Act.put, List.setIfInBounds_toArray, List.set_cons_zero, List.set_cons_succ, Nat.reduceAdd]
  rw [v0, v5]
  clear v0 v5
  clear hΦ
  clear e1
  obtain ⟨s8, a8, n8, c8, b8, _⟩ := S.at 2 (w.heap.size + 1) (IsI 0 0) rfl; have F1 := b8.c0; have F2 := b8.c1; have F3 := b8.f0; have F4 := b8.f1
  refine wpAny_ready (rs := [6]) (by kernel_rfl) (by simp) (AllReady.cons rfl (fun K hK => ?_) AllReady.nil); go_simp; refine hK _ _ ?_; clear hK K
  clear F1 F2 F3 F4 b8
  obtain ⟨W4, hW, S2, G2, _⟩ := S.put 2 (w.heap.size + 1) (IsI 0 0) (IsI k1 ((r : Int))) rfl s17 a17 n17 c17 (IsI.gstb _ _) ⟨_, _, _, _, rfl, h17⟩
  rw [← hW]; clear hW S
  replace h22 := h22.gr G2
  have S : St w W4 [(g5, IsI k1 ((r : Int))), (w.heap.size + 1 + 1, IsI 0 0), (w.heap.size + 1, IsI k1 ((r : Int))), (w.heap.size, IsI k1 z1)] := S2; clear S2 G2
  clear h17
  obtain ⟨s8, a8, n8, c8, b8, _⟩ := S.at 1 (w.heap.size + 1 + 1) (IsI 0 0) rfl; have F1 := b8.c0; have F2 := b8.c1; have F3 := b8.f0; have F4 := b8.f1
  refine wpAny_ready (rs := [7]) (by kernel_rfl) (by simp) (AllReady.cons rfl (fun K hK => ?_) AllReady.nil); go_simp; refine hK _ _ ?_; clear hK K
  clear F1 F2 F3 F4 b8
  obtain ⟨W5, hW, S2, G2, _⟩ := S.put 1 (w.heap.size + 1 + 1) (IsI 0 0) (IsI k1 (z1 - (r : Int) * (r : Int))) rfl s22 a22 n22 c22 (IsI.gstb _ _) ⟨_, _, _, _, rfl, h22⟩
  rw [← hW]; clear hW S
  have S : St w W5 [(g5, IsI k1 ((r : Int))), (w.heap.size + 1 + 1, IsI k1 (z1 - (r : Int) * (r : Int))), (w.heap.size + 1, IsI k1 ((r : Int))), (w.heap.size, IsI k1 z1)] := S2; clear S2 G2
  clear h22
  refine wpAny_ready (rs := [8]) (by kernel_rfl) (by simp) (AllReady.cons rfl (fun K hK => ?_) AllReady.nil); go_simp; refine hK _ _ ?_; clear hK K
  refine wpAny_done (by kernel_rfl) ?_ _
  go_wp2_with fail
  obtain ⟨rs0, ra0, rn0, rc0, rb0, rh0⟩ := S.at 2 (w.heap.size + 1) (IsI k1 ((r : Int))) rfl; have T0 := rb0.c0; have U0 := rb0.c1
  obtain ⟨rs1, ra1, rn1, rc1, rb1, rh1⟩ := S.at 1 (w.heap.size + 1 + 1) (IsI k1 (z1 - (r : Int) * (r : Int))) rfl; have T1 := rb1.c0; have U1 := rb1.c1
  exact bodyPost_ret (v := .tuple #[.agg #[.bool rs0, .slice ra0 rn0 rc0], .agg #[.bool rs1, .slice ra1 rn1 rc1], .int .i64 0]) (by simp [results, Tryd.results24, go_sem, T0, U0, T1, U1]) rfl (⟨_, rfl, S.ext, _, _, _, rfl, rh0, rh1, rfl⟩)

set_option maxRecDepth 100000 in
theorem Sqrtneg_c (w : World) (s1 : Bool) (a1 : Option Addr) (n1 c1 k1 : Nat) (z1 : Int) (h1 : IntAt w k1 s1 a1 n1 c1 z1) (l1 : k1 ≤ 1048576) (h0 : z1 < 0) :
    Calls Tryd.prog 24 #[.agg #[.bool s1, .slice a1 n1 c1]] w (Ret w (IsT3 (IsI 0 0) (IsI 0 0) (IsV (.int .i64 1)))) := by
  have H0 := hid h0
  clear h0
  obtain ⟨W, hW, S⟩ : ∃ W, W = ((w.alloc (.cells #[.bool s1, .slice a1 n1 c1] 27)).alloc (.cells #[.bool false, .slice none 0 0] 27)).alloc (.cells #[.bool false, .slice none 0 0] 27) ∧ St w W [(w.heap.size + 1 + 1, IsI 0 0), (w.heap.size + 1, IsI 0 0), (w.heap.size, IsI k1 z1)] := ⟨_, rfl, ((((St.start w).new' (w.heap.size) (by simp) s1 a1 n1 c1 27 (IsI k1 z1) (IsI.gstb _ _) ⟨_, _, _, _, rfl, h1⟩).new' (w.heap.size + 1) (by simp) false none 0 0 27 (IsI 0 0) (IsI.gstb _ _) (IsI.nil _ _)).new' (w.heap.size + 1 + 1) (by simp) false none 0 0 27 (IsI 0 0) (IsI.gstb _ _) (IsI.nil _ _))⟩
  clear h1
  go_enter Tryd.func24, Tryd.ntmps24
  go_upto_region 1 with (fail)
  rw [← hW]
  clear hW
  have hl := hid S.lt; have hw := S.ext.size
  refine wp_region_rgs 6 [some 8, some 9, some 7, some 10, some 11, some 5] [IsI k1 z1, IsT2 (IsI 0 0) (IsV (.int .i64 1)), IsT2 (IsI 0 0) (IsV (.int .i64 1)), IsI 0 0, IsV (.int .i64 1), IsB W] [5] (by decide) (by kernel_rfl) (by kernel_rfl) (by kernel_rfl) ?_ ?_ ?_ ?_
  · repeat' (first | exact trivial | exact IsV.stb _ | exact IsI.stb _ _ | exact IsB.stb _ | exact IsR.stb _ _ | exact IsMag.stb _ _ | exact IsPos.stb | apply IsT3.stb | apply IsT2.stb | apply And.intro)
  · intro i hi; simp only [List.mem_cons, List.not_mem_nil, or_false] at hi; subst hi; exact IsB.box _
  · refine RgAll.cons (by { intro v w' hE hd; simp only [layL, Act.put, List.setIfInBounds_toArray, List.set_cons_zero, List.set_cons_succ, Nat.reduceAdd]; obtain ⟨s8, a8, n8, c8, b8, h8⟩ := (S.mono hE).at 2 (w.heap.size) (IsI k1 z1) rfl; have L0 := b8.c0; have L1 := b8.c1; skip; intro K hK; go_simp; exact hK.out _ _ (Ext.refl _) h8 (FreshIf.no rfl) }) ?_
    refine RgAll.cons (by { intro v w' hE hd; simp only [layL, Act.put, List.setIfInBounds_toArray, List.set_cons_zero, List.set_cons_succ, Nat.reduceAdd]; have d0 : (IsI k1 z1) (v 0) w' := hd 0 (by kernel_rfl); skip; intro K hK; go_simp; go_at_call 21; go_split_ands; (with_reducible refine Calls.mono (Rootneg_f d0 l1 2 (Or.inl H0.out)) ?_); rintro e w2 ⟨x, rfl, e2, hx⟩; exact hK.out _ _ e2 hx (FreshIf.no rfl) }) ?_
    refine RgAll.cons (by { intro v w' hE hd; simp only [layL, Act.put, List.setIfInBounds_toArray, List.set_cons_zero, List.set_cons_succ, Nat.reduceAdd]; have d0 : (IsT2 (IsI 0 0) (IsV (.int .i64 1))) (v 1) w' := hd 1 (by kernel_rfl); skip; intro K hK; go_simp; exact hK.out _ _ (Ext.refl _) d0 (FreshIf.no rfl) }) ?_
    refine RgAll.cons (by { intro v w' hE hd; simp only [layL, Act.put, List.setIfInBounds_toArray, List.set_cons_zero, List.set_cons_succ, Nat.reduceAdd]; have d0 : (IsT2 (IsI 0 0) (IsV (.int .i64 1))) (v 2) w' := hd 2 (by kernel_rfl); obtain ⟨x0, x1, z0, y0, y1⟩ := d0; rw [z0]; intro K hK; go_simp; exact hK.out _ _ (Ext.refl _) y0 (FreshIf.no rfl) }) ?_
    refine RgAll.cons (by { intro v w' hE hd; simp only [layL, Act.put, List.setIfInBounds_toArray, List.set_cons_zero, List.set_cons_succ, Nat.reduceAdd]; have d0 : (IsT2 (IsI 0 0) (IsV (.int .i64 1))) (v 2) w' := hd 2 (by kernel_rfl); obtain ⟨x0, x1, z0, y0, y1⟩ := d0; rw [z0]; intro K hK; go_simp; exact hK.out _ _ (Ext.refl _) y1 (FreshIf.no rfl) }) ?_
    refine RgAll.cons (by { intro v w' hE hd; simp only [layL, Act.put, List.setIfInBounds_toArray, List.set_cons_zero, List.set_cons_succ, Nat.reduceAdd]; skip; skip; intro K hK; go_simp; refine hK.out _ _ ((Ext.refl _).alloc _) ⟨_, rfl, hE.size, Bx.new _ _ _ _ _⟩ FreshIf.yes }) ?_
    exact RgAll.nil
  intro v W1 e1 hΦ _
  replace S := S.mono e1
  obtain ⟨s10, a10, n10, c10, v3, h10⟩ := (hΦ 3 (by decide) : IsI 0 0 (v 3) W1)
  have v4 : v 4 = .int .i64 1 := hΦ 4 (by decide)
  obtain ⟨g5, v5, q2, b1⟩ := (hΦ 5 (by decide) : IsB W (v 5) W1)
  replace S := S.addN (Apart.old hl.out q2) (Nat.le_trans hw q2) b1
  clear b1
  simp only [layL, Act.put, List.setIfInBounds_toArray, List.set_cons_zero, List.set_cons_succ, Nat.reduceAdd]
  rw [v3, v4, v5]
  clear v3 v4 v5
  clear hΦ
  clear hl hw
  clear e1
  obtain ⟨s8, a8, n8, c8, b8, _⟩ := S.at 0 (g5) (IsI 0 0) rfl; have F1 := b8.c0; have F2 := b8.c1; have F3 := b8.f0; have F4 := b8.f1
  refine wpList_step fun K hK => ?_; go_simp; refine hK _ _ ?_; clear hK K
  clear F1 F2 F3 F4 b8
  obtain ⟨W2, hW, S2, G2, _⟩ := S.put 0 (g5) (IsI 0 0) (IsI 0 0) rfl s10 a10 n10 c10 (IsI.gstb _ _) ⟨_, _, _, _, rfl, h10⟩
  rw [← hW]; clear hW S
  have S : St w W2 [(g5, IsI 0 0), (w.heap.size + 1 + 1, IsI 0 0), (w.heap.size + 1, IsI 0 0), (w.heap.size, IsI k1 z1)] := S2; clear S2 G2
  clear h10
  refine wpList_step fun K hK => ?_; go_simp; refine hK _ _ ?_; clear hK K
  refine wpList_nil ?_
  go_upto_region 3 with (fail)
  refine wp_region_rgs 3 [some 14, some 15, some 16] [IsI 0 0, IsI 0 0, IsV (.int .i64 1)] [] (by decide) (by kernel_rfl) (by kernel_rfl) (by kernel_rfl) ?_ ?_ ?_ ?_
  · repeat' (first | exact trivial | exact IsV.stb _ | exact IsI.stb _ _ | exact IsB.stb _ | exact IsR.stb _ _ | exact IsMag.stb _ _ | exact IsPos.stb | apply IsT3.stb | apply IsT2.stb | apply And.intro)
  · exact (fun _ h => by cases h)
  · refine RgAll.cons (by { intro v w' hE hd; simp only [layL, Act.put, List.setIfInBounds_toArray, List.set_cons_zero, List.set_cons_succ, Nat.reduceAdd]; skip; skip; intro K hK; go_simp; exact hK.out _ _ (Ext.refl _) (IsI.nil _ _) (FreshIf.no rfl) }) ?_
    refine RgAll.cons (by { intro v w' hE hd; simp only [layL, Act.put, List.setIfInBounds_toArray, List.set_cons_zero, List.set_cons_succ, Nat.reduceAdd]; skip; skip; intro K hK; go_simp; exact hK.out _ _ (Ext.refl _) (IsI.nil _ _) (FreshIf.no rfl) }) ?_
    refine RgAll.cons (by { intro v w' hE hd; simp only [layL, Act.put, List.setIfInBounds_toArray, List.set_cons_zero, List.set_cons_succ, Nat.reduceAdd]; skip; skip; intro K hK; go_simp; exact hK.out _ _ (Ext.refl _) rfl (FreshIf.no rfl) }) ?_
    exact RgAll.nil
  intro v W3 e1 hΦ _
  replace S := S.mono e1
  obtain ⟨s14, a14, n14, c14, v0, h14⟩ := (hΦ 0 (by decide) : IsI 0 0 (v 0) W3)
  obtain ⟨s15, a15, n15, c15, v1, h15⟩ := (hΦ 1 (by decide) : IsI 0 0 (v 1) W3)
  have v2 : v 2 = .int .i64 1 := hΦ 2 (by decide)
  simp only [layL, Act.put, List.setIfInBounds_toArray, List.set_cons_zero, List.set_cons_succ, Nat.reduceAdd]
  rw [v0, v1, v2]
  clear v0 v1 v2
  clear hΦ
  clear e1
  obtain ⟨s8, a8, n8, c8, b8, _⟩ := S.at 2 (w.heap.size + 1) (IsI 0 0) rfl; have F1 := b8.c0; have F2 := b8.c1; have F3 := b8.f0; have F4 := b8.f1
  refine wpList_step fun K hK => ?_; go_simp; refine hK _ _ ?_; clear hK K
  clear F1 F2 F3 F4 b8
  obtain ⟨W4, hW, S2, G2, _⟩ := S.put 2 (w.heap.size + 1) (IsI 0 0) (IsI 0 0) rfl s14 a14 n14 c14 (IsI.gstb _ _) ⟨_, _, _, _, rfl, h14⟩
  rw [← hW]; clear hW S
  replace h15 := h15.gr G2
  have S : St w W4 [(g5, IsI 0 0), (w.heap.size + 1 + 1, IsI 0 0), (w.heap.size + 1, IsI 0 0), (w.heap.size, IsI k1 z1)] := S2; clear S2 G2
  clear h14
  obtain ⟨s8, a8, n8, c8, b8, _⟩ := S.at 1 (w.heap.size + 1 + 1) (IsI 0 0) rfl; have F1 := b8.c0; have F2 := b8.c1; have F3 := b8.f0; have F4 := b8.f1
  refine wpList_step fun K hK => ?_; go_simp; refine hK _ _ ?_; clear hK K
  clear F1 F2 F3 F4 b8
  obtain ⟨W5, hW, S2, G2, _⟩ := S.put 1 (w.heap.size + 1 + 1) (IsI 0 0) (IsI 0 0) rfl s15 a15 n15 c15 (IsI.gstb _ _) ⟨_, _, _, _, rfl, h15⟩
  rw [← hW]; clear hW S
  have S : St w W5 [(g5, IsI 0 0), (w.heap.size + 1 + 1, IsI 0 0), (w.heap.size + 1, IsI 0 0), (w.heap.size, IsI k1 z1)] := S2; clear S2 G2
  clear h15
  refine wpList_step fun K hK => ?_; go_simp; refine hK _ _ ?_; clear hK K
  refine wpList_nil ?_
  go_wp2_with fail
  obtain ⟨rs0, ra0, rn0, rc0, rb0, rh0⟩ := S.at 2 (w.heap.size + 1) (IsI 0 0) rfl; have T0 := rb0.c0; have U0 := rb0.c1
  obtain ⟨rs1, ra1, rn1, rc1, rb1, rh1⟩ := S.at 1 (w.heap.size + 1 + 1) (IsI 0 0) rfl; have T1 := rb1.c0; have U1 := rb1.c1
  exact bodyPost_ret (v := .tuple #[.agg #[.bool rs0, .slice ra0 rn0 rc0], .agg #[.bool rs1, .slice ra1 rn1 rc1], .int .i64 1]) (by simp [results, Tryd.results24, go_sem, T0, U0, T1, U1]) rfl (⟨_, rfl, S.ext, _, _, _, rfl, rh0, rh1, rfl⟩)

theorem Sqrt_f {k1 : Nat} {z1 : Int} {x : Value} {w : World} (hx : IsI k1 z1 x w) (l1 : k1 ≤ 1048576) (h0 : 0 ≤ z1) (r : Nat) (hr : IsRoot z1.natAbs 2 r) :
    Calls Tryd.prog 24 #[x] w (Ret w (IsT3 (IsI k1 (r : Int)) (IsI k1 (z1 - (r : Int) * (r : Int))) (IsV (.int .i64 0)))) := by
  obtain ⟨s, a, n, c, rfl, h1⟩ := hx
  exact Sqrt_c w s a n c k1 z1 h1 l1 h0 r hr
theorem Sqrtneg_f {k1 : Nat} {z1 : Int} {x : Value} {w : World} (hx : IsI k1 z1 x w) (l1 : k1 ≤ 1048576) (h0 : z1 < 0) :
    Calls Tryd.prog 24 #[x] w (Ret w (IsT3 (IsI 0 0) (IsI 0 0) (IsV (.int .i64 1)))) := by
  obtain ⟨s, a, n, c, rfl, h1⟩ := hx
  exact Sqrtneg_c w s a n c k1 z1 h1 l1 h0

theorem lt_of_bitLen (q k : Nat) (hq : bitLen q ≤ 32 * k) : q < 4294967296 ^ k := by
  rw [show (4294967296 : Nat) = 2 ^ 32 from rfl, ← Nat.pow_mul]
  rcases Nat.eq_zero_or_pos q with h0 | h0
  · subst h0; exact Nat.pow_pos (by decide)
  · obtain ⟨b, h6, _, h7⟩ := bitLen_bounds q (by omega)
    exact Nat.lt_of_lt_of_le h7 (Nat.pow_le_pow_right (by decide) (by omega))
/-- Pow, as facts. -/
theorem Powrng_f {k1 : Nat} {z1 : Int} {x : Value} {w : World} (hx : IsI k1 z1 x w) (n : Int) (hn : n < 0 ∨ 4096 < n) (hlo : -9223372036854775808 ≤ n) (hhi : n ≤ 9223372036854775807) :
    Calls Tryd.prog 20 #[x, .int .i64 n] w (Ret w (IsT2 (IsI 0 0) (IsV (.int .i64 1)))) := by
  obtain ⟨s, a, m, c, rfl, h1⟩ := hx
  exact Calls.mono (Pow_rng w s a m c n hn hlo hhi) fun _ _ ⟨s, a, n, c, h1, h2, h3⟩ => ⟨_, h1, h2, _, _, rfl, ⟨_, _, _, _, rfl, h3⟩, rfl⟩
theorem Powbig_f {k1 : Nat} {z1 : Int} {x : Value} {w : World} (hx : IsI k1 z1 x w) (l1 : k1 ≤ 268435456) (n : Int) (h0 : 0 ≤ n) (h4 : n ≤ 4096) (hb1 : 1 < bitLen z1.natAbs) (hb2 : 4096 ≤ ((bitLen z1.natAbs : Nat) - 1 : Int) * n) :
    Calls Tryd.prog 20 #[x, .int .i64 n] w (Ret w (IsT2 (IsI 0 0) (IsV (.int .i64 2)))) := by
  have hb := bitLen_le _ _ hx.size
  obtain ⟨s, a, m, c, rfl, h1⟩ := hx
  exact Calls.mono (Pow_big w s a m c k1 z1 h1 l1 n h0 h4 hb1 hb2 (by omega)) fun _ _ ⟨s, a, n, c, h1, h2, h3⟩ => ⟨_, h1, h2, _, _, rfl, ⟨_, _, _, _, rfl, h3⟩, rfl⟩
theorem Pow_f {k1 : Nat} {z1 : Int} {x : Value} {w : World} (hx : IsI k1 z1 x w) (l1 : k1 ≤ 268435456) (n : Nat) (h4 : n ≤ 4096) (hb : ¬ (1 < bitLen z1.natAbs ∧ (4096 : Int) ≤ ((bitLen z1.natAbs : Nat) - 1 : Int) * n)) (hs : bitLen (z1 ^ n).natAbs ≤ 4096) :
    Calls Tryd.prog 20 #[x, .int .i64 n] w (Ret w (IsT2 (IsI 128 (z1 ^ n)) (IsV (.int .i64 0)))) := by
  have hb3 := bitLen_le _ _ hx.size
  obtain ⟨s, a, m, c, rfl, h1⟩ := hx
  refine Calls.mono (Pow_ok w s a m c k1 z1 h1 l1 n h4 hb (by omega)) fun _ _ ⟨s, a, n, c, h1, h2, h3⟩ => ?_
  rw [if_neg (by omega)] at h1 h3
  refine ⟨_, h1, h2, _, _, rfl, ⟨_, _, _, _, rfl, h3.tight ?_⟩, rfl⟩
  exact lt_of_bitLen _ 128 (by omega)
theorem Powhuge_f {k1 : Nat} {z1 : Int} {x : Value} {w : World} (hx : IsI k1 z1 x w) (l1 : k1 ≤ 268435456) (n : Nat) (h4 : n ≤ 4096) (hb : ¬ (1 < bitLen z1.natAbs ∧ (4096 : Int) ≤ ((bitLen z1.natAbs : Nat) - 1 : Int) * n)) (hs : 4096 < bitLen (z1 ^ n).natAbs) :
    Calls Tryd.prog 20 #[x, .int .i64 n] w (Ret w (IsT2 (IsI 0 0) (IsV (.int .i64 2)))) := by
  have hb3 := bitLen_le _ _ hx.size
  obtain ⟨s, a, m, c, rfl, h1⟩ := hx
  refine Calls.mono (Pow_ok w s a m c k1 z1 h1 l1 n h4 hb (by omega)) fun _ _ ⟨s, a, n, c, h1, h2, h3⟩ => ?_
  rw [if_pos hs] at h1 h3
  exact ⟨_, h1, h2, _, _, rfl, ⟨_, _, _, _, rfl, h3.tight (Nat.pow_pos (by decide))⟩, rfl⟩
end Go.Proofs.YtpflfagjkmeeiaaDoor
