/-
  Integers of package integer: Pow. Every integer of at most 2^28 words, every int as an exponent.
-/
import Derived.Test.YtpflfagjkmeeiaaDoorICmp
namespace Go.Proofs.YtpflfagjkmeeiaaDoor
open Go Go.RowKit

/-- Hands back an integer and an error's number. -/
def RIE (w0 : World) (k : Nat) (z err : Int) (e : Ending) (w' : World) : Prop :=
  ∃ s a n c, e = .returned (.tuple #[.agg #[.bool s, .slice a n c], .int .i64 err]) ∧ Ext w0 w' ∧ IntAt w' k s a n c z

/-- What Pow answers. -/
def powR (z n : Int) : Int × Int :=
  if n < 0 ∨ 4096 < n then (0, 1)
  else if 1 < bitLen z.natAbs ∧ 4096 ≤ ((bitLen z.natAbs : Nat) - 1 : Int) * n then (0, 2)
  else if 4096 < bitLen (z ^ n.toNat).natAbs then (0, 2) else (z ^ n.toNat, 0)

theorem Pow_rng (w : World) (s1 : Bool) (a1 : Option Addr) (n1 c1 : Nat) (n : Int) (hn : n < 0 ∨ 4096 < n) (hlo : -9223372036854775808 ≤ n) (hhi : n ≤ 9223372036854775807) :
    Calls Tryd.prog 20 #[.agg #[.bool s1, .slice a1 n1 c1], .int .i64 n] w (RIE w 0 0 1) := by
  obtain ⟨W, hW, K0⟩ := kq11 w s1 a1 n1 c1
  have b4 := K0.bx (w.heap.size + 1) false none 0 0 (by simp)
  have E := hid K0.ext
  clear K0
  have F1 := b4.c0; have F2 := b4.c1; have F3 := b4.f0; have F4 := b4.f1
  rcases hn with h | h
  · have hd : decide (n < 0) = true := by simpa using h
    go_enter Tryd.func20, Tryd.ntmps20
    go_wp2_with fail
    rw [← hW]
    clear hW
    go_wp2_with fail
    exact bodyPost_ret (v := .tuple #[.agg #[.bool false, .slice none 0 0], .int .i64 1]) (by simp [results, Tryd.results20, go_sem, F1, F2]) rfl ⟨_, _, _, _, rfl, E.out, IntAt.nil _ _⟩
  · have hd : decide (n < 0) = false := by simp; omega
    have hd2 : decide (4096 < n) = true := by simpa using h
    go_enter Tryd.func20, Tryd.ntmps20
    go_wp2_with fail
    rw [← hW]
    clear hW
    go_wp2_with fail
    exact bodyPost_ret (v := .tuple #[.agg #[.bool false, .slice none 0 0], .int .i64 1]) (by simp [results, Tryd.results20, go_sem, F1, F2]) rfl ⟨_, _, _, _, rfl, E.out, IntAt.nil _ _⟩

theorem Pow_big (w : World) (s1 : Bool) (a1 : Option Addr) (n1 c1 k1 : Nat) (z1 : Int) (h1 : IntAt w k1 s1 a1 n1 c1 z1) (l1 : k1 ≤ 268435456) (n : Int) (h0 : 0 ≤ n) (h4 : n ≤ 4096) (hb1 : 1 < bitLen z1.natAbs) (hb2 : 4096 ≤ ((bitLen z1.natAbs : Nat) - 1 : Int) * n) (hb3 : bitLen z1.natAbs < 17179869184) :
    Calls Tryd.prog 20 #[.agg #[.bool s1, .slice a1 n1 c1], .int .i64 n] w (RIE w 0 0 2) := by
  obtain ⟨W, hW, K0⟩ := kq11 w s1 a1 n1 c1
  have b2 := K0.bx w.heap.size s1 a1 n1 c1 (by simp)
  have b4 := K0.bx (w.heap.size + 1) false none 0 0 (by simp)
  have E := hid K0.ext
  have H := hid (Bits_c W s1 a1 n1 c1 k1 z1 (h1.ext K0.ext) l1)
  clear K0 h1
  have F1 := b4.c0; have F2 := b4.c1; have F3 := b4.f0; have F4 := b4.f1
  have G1 := b2.c0; have G2 := b2.c1; have G3 := b2.f0; have G4 := b2.f1
  have hd : decide (n < 0) = false := by simp; omega
  have hd2 : decide (4096 < n) = false := by simp; omega
  generalize bitLen z1.natAbs = b at *
  go_enter Tryd.func20, Tryd.ntmps20
  go_wp2_with fail
  rw [← hW]
  clear hW
  go_wp2_with fail
  refine Calls.mono H.out ?_
  rintro e w1 ⟨rfl, e1⟩
  have b4 := b4.ext e1
  have E := E.out.trans e1
  clear F1 F2 F3 F4 G1 G2 G3 G4 H b2 hd hd2
  have F1 := b4.c0; have F2 := b4.c1; have F3 := b4.f0; have F4 := b4.f1
  obtain ⟨p, hp⟩ : ∃ p, p = ((b : Int) - 1) * n := ⟨_, rfl⟩
  have hp0 : 0 ≤ p := by rw [hp]; exact Int.mul_nonneg (by omega) h0
  have hp1 : p ≤ 17179869184 * 4096 := by rw [hp]; exact Int.mul_le_mul (by omega) h4 h0 (by omega)
  rw [← hp] at hb2
  have hw1 : IntKind.i64.wrap ((b : Int) - 1) = (b : Int) - 1 := by simp only [IntKind.wrap_i64]; omega
  have hw : IntKind.i64.wrap (((b : Int) - 1) * n) = p := by rw [← hp]; simp only [IntKind.wrap_i64]; omega
  have hd : decide ((1 : Int) < (b : Int)) = true := by simp; omega
  go_wp2_with fail
  obtain ⟨X1, hW, b4, p'⟩ := b4.put' false none 0 0
  rw [← hW]; clear hW
  have T0 := b4.c0; have T1 := b4.c1
  exact bodyPost_ret (v := .tuple #[.agg #[.bool false, .slice none 0 0], .int .i64 2]) (by simp [results, Tryd.results20, go_sem, T0, T1]) rfl ⟨_, _, _, _, rfl, E.pt p' (by omega), IntAt.nil _ _⟩

theorem bitLen_lt_pow (m : Nat) : m < 4294967296 ^ (bitLen m / 32 + 1) := by
  rcases Nat.eq_zero_or_pos m with h | h
  · subst h; rw [show (4294967296 : Nat) = 2 ^ 32 from rfl]; exact Nat.pow_pos (Nat.pow_pos (by decide))
  · obtain ⟨k, h1, h2, h3⟩ := bitLen_bounds m (by omega)
    rw [h1, show (4294967296 : Nat) = 2 ^ 32 from rfl, ← Nat.pow_mul]
    exact Nat.lt_of_lt_of_le h3 (Nat.pow_le_pow_right (by decide) (by omega))
theorem pow_bound (b n : Nat) (hn : n ≤ 4096) (h : ¬ (1 < b ∧ (4096 : Int) ≤ ((b : Int) - 1) * n)) : (b / 32 + 1) * n ≤ 16384 := by
  rcases Nat.lt_or_ge 1 b with h1 | h1
  · have h2 : ((b : Int) - 1) * n < 4096 := by
      rcases Int.lt_or_le (((b : Int) - 1) * n) 4096 with h3 | h3
      · exact h3
      · exact absurd ⟨h1, h3⟩ h
    obtain ⟨c, rfl⟩ : ∃ c, b = c + 1 := ⟨b - 1, by omega⟩
    have h3 : c * n < 4096 := by
      have h6 : (((c + 1 : Nat) : Int) - 1) = (c : Int) := by omega
      rw [h6, ← Int.natCast_mul] at h2
      omega
    have h4 : ((c + 1) / 32 + 1) * n ≤ (c + 2) * n := Nat.mul_le_mul_right _ (by omega)
    have h5 : (c + 2) * n = c * n + 2 * n := Nat.add_mul c 2 n
    omega
  · have : b / 32 + 1 = 1 := by omega
    rw [this]; omega

set_option maxRecDepth 100000 in
theorem Pow_ok (w : World) (s1 : Bool) (a1 : Option Addr) (n1 c1 k1 : Nat) (z1 : Int) (h1 : IntAt w k1 s1 a1 n1 c1 z1) (l1 : k1 ≤ 268435456) (n : Nat) (h4 : n ≤ 4096) (hb : ¬ (1 < bitLen z1.natAbs ∧ (4096 : Int) ≤ ((bitLen z1.natAbs : Nat) - 1 : Int) * n)) (hb3 : bitLen z1.natAbs < 17179869184) :
    Calls Tryd.prog 20 #[.agg #[.bool s1, .slice a1 n1 c1], .int .i64 n] w (fun e w' =>
      RIE w ((bitLen z1.natAbs / 32 + 1) * n + 1) (if 4096 < bitLen (z1 ^ n).natAbs then 0 else z1 ^ n) (if 4096 < bitLen (z1 ^ n).natAbs then 2 else 0) e w') := by
  obtain ⟨W, hW, K0⟩ := kq11 w s1 a1 n1 c1
  have b2 := hid (K0.bx w.heap.size s1 a1 n1 c1 (by simp))
  have b4 := hid (K0.bx (w.heap.size + 1) false none 0 0 (by simp))
  have E := hid K0.ext
  have H := hid (Bits_c W s1 a1 n1 c1 k1 z1 (h1.ext K0.ext) l1)
  have hk := pow_bound _ n h4 hb
  obtain ⟨k, hkk⟩ : ∃ k, k = bitLen z1.natAbs / 32 + 1 := ⟨_, rfl⟩
  rw [← hkk] at hk ⊢
  have hz := hid ((h1.ext K0.ext).tight (k' := k) (by rw [hkk]; exact bitLen_lt_pow _))
  obtain ⟨rv, hrv⟩ : ∃ r, r = (if 4096 < bitLen (z1 ^ n).natAbs then 0 else z1 ^ n) := ⟨_, rfl⟩
  obtain ⟨re, hre⟩ : ∃ r : Int, r = (if 4096 < bitLen (z1 ^ n).natAbs then 2 else 0) := ⟨_, rfl⟩
  rw [← hrv, ← hre]
  have Hv := hid hrv
  have He := hid hre
  clear K0 h1 hkk hrv hre
  generalize bitLen z1.natAbs = b at *
  have hd : decide ((n : Int) < 0) = false := by simp
  have hd2 : decide ((4096 : Int) < (n : Int)) = false := by simp; omega
  go_enter Tryd.func20, Tryd.ntmps20
  go_wp2_with fail
  rw [← hW]
  clear hW
  have G1 := b2.out.c0; have G2 := b2.out.c1; have G3 := b2.out.f0; have G4 := b2.out.f1
  go_wp2_with fail
  refine Calls.mono H.out ?_
  rintro e w1 ⟨rfl, e1⟩
  have b2 := hid (b2.out.ext e1)
  have b4 := hid (b4.out.ext e1)
  have E := hid (E.out.trans e1)
  have hz := hid (hz.out.ext e1)
  clear G1 G2 G3 G4 H hd hd2 e1
  by_cases hb1 : 1 < b
  · have hp : ¬ (4096 : Int) ≤ ((b : Int) - 1) * n := fun h => hb ⟨hb1, h⟩
    obtain ⟨p, hpp⟩ : ∃ p, p = ((b : Int) - 1) * n := ⟨_, rfl⟩
    have hp0 : 0 ≤ p := by rw [hpp]; exact Int.mul_nonneg (by omega) (by omega)
    rw [← hpp] at hp
    have hw1 : IntKind.i64.wrap ((b : Int) - 1) = (b : Int) - 1 := by simp only [IntKind.wrap_i64]; omega
    have hw : IntKind.i64.wrap (((b : Int) - 1) * n) = p := by rw [← hpp]; simp only [IntKind.wrap_i64]; omega
    have hd : decide ((1 : Int) < (b : Int)) = true := by simp; omega
    have hd2 : decide ((4096 : Int) ≤ p) = false := by simp; omega
    go_upto_region 6 with (fail)
    clear hd hd2 hw hw1 hp hp0 hpp
    have G1 := b2.out.c0; have G2 := b2.out.c1; have G3 := b2.out.f0; have G4 := b2.out.f1
    go_wp2_with fail
    refine Calls.mono (power_c w1 s1 a1 n1 c1 k z1 hz.out n (by omega) (by omega)) ?_
    rintro e w2 ⟨s3, a3, n3, c3, rfl, e2, h3⟩
    clear G1 G2 G3 G4
    go_upto_region 7 with (fail)
    obtain ⟨w3, hW, b7, e3⟩ := bx1 w2 s3 a3 n3 c3
    rw [← hW]; clear hW
    have h3 := h3.ext e3
    have b4 := b4.out.ext (e2.trans e3)
    have E := E.out.trans (e2.trans e3)
    clear b2 e2 e3 hz
    generalize w2.heap.size = g7 at *
    have l7 := b7.lt
    have G1 := b7.c0; have G2 := b7.c1; have G3 := b7.f0; have G4 := b7.f1
    have HB := hid (Bits_c w3 s3 a3 n3 c3 (k * n + 1) (z1 ^ n) h3 (by omega))
    generalize bitLen (z1 ^ n).natAbs = bb at *
    go_wp2_with fail
    refine Calls.mono HB.out ?_
    rintro e w4 ⟨rfl, e4⟩
    have b4 := b4.ext e4
    have b7 := b7.ext e4
    have h3 := h3.ext e4
    have E := E.trans e4
    clear G1 G2 G3 G4 e4 HB
    have G1 := b7.c0; have G2 := b7.c1; have G3 := b7.f0; have G4 := b7.f1
    have F1 := b4.c0; have F2 := b4.c1; have F3 := b4.f0; have F4 := b4.f1
    by_cases hbb : 4096 < bb
    · have hd3 : decide ((4096 : Int) < (bb : Int)) = true := by simp; omega
      have e1 : rv = 0 := by rw [Hv.out, if_pos hbb]
      have e2 : re = 2 := by rw [He.out, if_pos hbb]
      have e1 := hid e1
      have e2 := hid e2
      go_wp2_with fail
      obtain ⟨X1, hW, b4, p'⟩ := b4.put' false none 0 0
      rw [← hW]; clear hW
      have T0 := b4.c0; have T1 := b4.c1
      rw [e1.out, e2.out]
      exact bodyPost_ret (v := .tuple #[.agg #[.bool false, .slice none 0 0], .int .i64 2]) (by simp [results, Tryd.results20, go_sem, T0, T1]) rfl ⟨_, _, _, _, rfl, E.pt p' (by omega), IntAt.nil _ _⟩
    · have hd3 : decide ((4096 : Int) < (bb : Int)) = false := by simp; omega
      have e1 : rv = z1 ^ n := by rw [Hv.out, if_neg hbb]
      have e2 : re = 0 := by rw [He.out, if_neg hbb]
      have e1 := hid e1
      have e2 := hid e2
      go_wp2_with fail
      obtain ⟨X1, hW, b4, p'⟩ := b4.put' s3 a3 n3 c3
      rw [← hW]; clear hW
      have T0 := b4.c0; have T1 := b4.c1
      rw [e1.out, e2.out]
      exact bodyPost_ret (v := .tuple #[.agg #[.bool s3, .slice a3 n3 c3], .int .i64 0]) (by simp [results, Tryd.results20, go_sem, T0, T1]) rfl ⟨_, _, _, _, rfl, E.pt p' (by omega), h3.pt p'⟩
  · have hd : decide ((1 : Int) < (b : Int)) = false := by simp; omega
    go_upto_region 6 with (fail)
    clear hd
    have G1 := b2.out.c0; have G2 := b2.out.c1; have G3 := b2.out.f0; have G4 := b2.out.f1
    go_wp2_with fail
    refine Calls.mono (power_c w1 s1 a1 n1 c1 k z1 hz.out n (by omega) (by omega)) ?_
    rintro e w2 ⟨s3, a3, n3, c3, rfl, e2, h3⟩
    clear G1 G2 G3 G4
    go_upto_region 7 with (fail)
    obtain ⟨w3, hW, b7, e3⟩ := bx1 w2 s3 a3 n3 c3
    rw [← hW]; clear hW
    have h3 := h3.ext e3
    have b4 := b4.out.ext (e2.trans e3)
    have E := E.out.trans (e2.trans e3)
    clear b2 e2 e3 hz
    generalize w2.heap.size = g7 at *
    have l7 := b7.lt
    have G1 := b7.c0; have G2 := b7.c1; have G3 := b7.f0; have G4 := b7.f1
    have HB := hid (Bits_c w3 s3 a3 n3 c3 (k * n + 1) (z1 ^ n) h3 (by omega))
    generalize bitLen (z1 ^ n).natAbs = bb at *
    go_wp2_with fail
    refine Calls.mono HB.out ?_
    rintro e w4 ⟨rfl, e4⟩
    have b4 := b4.ext e4
    have b7 := b7.ext e4
    have h3 := h3.ext e4
    have E := E.trans e4
    clear G1 G2 G3 G4 e4 HB
    have G1 := b7.c0; have G2 := b7.c1; have G3 := b7.f0; have G4 := b7.f1
    have F1 := b4.c0; have F2 := b4.c1; have F3 := b4.f0; have F4 := b4.f1
    by_cases hbb : 4096 < bb
    · have hd3 : decide ((4096 : Int) < (bb : Int)) = true := by simp; omega
      have e1 : rv = 0 := by rw [Hv.out, if_pos hbb]
      have e2 : re = 2 := by rw [He.out, if_pos hbb]
      have e1 := hid e1
      have e2 := hid e2
      go_wp2_with fail
      obtain ⟨X1, hW, b4, p'⟩ := b4.put' false none 0 0
      rw [← hW]; clear hW
      have T0 := b4.c0; have T1 := b4.c1
      rw [e1.out, e2.out]
      exact bodyPost_ret (v := .tuple #[.agg #[.bool false, .slice none 0 0], .int .i64 2]) (by simp [results, Tryd.results20, go_sem, T0, T1]) rfl ⟨_, _, _, _, rfl, E.pt p' (by omega), IntAt.nil _ _⟩
    · have hd3 : decide ((4096 : Int) < (bb : Int)) = false := by simp; omega
      have e1 : rv = z1 ^ n := by rw [Hv.out, if_neg hbb]
      have e2 : re = 0 := by rw [He.out, if_neg hbb]
      have e1 := hid e1
      have e2 := hid e2
      go_wp2_with fail
      obtain ⟨X1, hW, b4, p'⟩ := b4.put' s3 a3 n3 c3
      rw [← hW]; clear hW
      have T0 := b4.c0; have T1 := b4.c1
      rw [e1.out, e2.out]
      exact bodyPost_ret (v := .tuple #[.agg #[.bool s3, .slice a3 n3 c3], .int .i64 0]) (by simp [results, Tryd.results20, go_sem, T0, T1]) rfl ⟨_, _, _, _, rfl, E.pt p' (by omega), h3.pt p'⟩
end Go.Proofs.YtpflfagjkmeeiaaDoor
