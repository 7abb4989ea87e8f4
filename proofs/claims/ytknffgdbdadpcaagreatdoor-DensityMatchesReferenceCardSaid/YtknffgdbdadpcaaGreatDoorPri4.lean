/-
 Package math/bits: trailing zeros of any word, the division of two words by one (that it ends, and how long its rest is).
-/
import Derived.Test.YtknffgdbdadpcaaGreatDoorFact
import Derived.Test.YtknffgdbdadpcaaGreatDoorPrt
import Derived.Lib.ItoaNum
namespace Go.Proofs.YtknffgdbdadpcaaGreatDoor
open Go Go.RowKit

def tzT : List Nat := [0, 1, 56, 2, 57, 49, 28, 3, 61, 58, 42, 50, 38, 29, 17, 4, 62, 47, 59, 36, 45, 43, 51, 22, 53, 39, 33, 30, 24, 18, 12, 5, 63, 55, 48, 27, 60, 41, 37, 16, 46, 35, 44, 21, 52, 32, 23, 11, 54, 26, 40, 15, 34, 20, 31, 10, 25, 14, 19, 9, 13, 8, 7, 6]
/-- The table of the lowest bits is laid. -/
def Tzt (w : World) : Prop := ∀ i, i < 64 → World.cell? w ⟨2, i, none⟩ = some (.int .u8 ((tzT.getD i 0 : Nat) : Int))
theorem Tzt.ext {w w' : World} (h : Tzt w) (e : Ext w w') : Tzt w' := fun i hi => e.cell (h i hi)
theorem tz_at : ∀ s, s < 64 → ∃ V i : Nat, 2 ^ s * 285870213051353865 % 18446744073709551616 = V ∧ V / 288230376151711744 = i ∧ i < 64 ∧ tzT.getD i 0 = s := by
 intro s hs
 have h : ∀ s, s < 64 → tzT.getD (2 ^ s * 285870213051353865 % 18446744073709551616 / 288230376151711744) 0 = s := by decide +kernel
 refine ⟨_, _, rfl, rfl, ?_, h s hs⟩
 omega
set_option maxRecDepth 100000 in
theorem tz_g (w : World) (hT : Tzt w) (s d x : Nat) (hx : x = 2 ^ s * d) (hd : d % 2 = 1) (hb : x < 18446744073709551616) : Calls Tryz.prog 172 #[.int .u64 ((x : Nat) : Int)] w (Ret w (IsV (.int .i64 ((s : Nat) : Int)))) := by
 have hp : 0 < 2 ^ s := Nat.pow_pos (by decide)
 have hs : s < 64 := by
  rcases Nat.lt_or_ge s 64 with h1 | h1
  ·exact h1
  ·have h2 := Nat.pow_le_pow_right (n := 2) (by decide) h1
   have h3 := Nat.le_mul_of_pos_right (2 ^ s) (show 0 < d by omega)
   omega
 have hx0 : 0 < x := by rw [hx]; exact Nat.mul_pos hp (by omega)
 have hlb := low_bit s d hd (by rw [← hx]; exact hb)
 rw [← hx, show (2 : Nat) ^ 64 = 18446744073709551616 from rfl] at hlb
 obtain ⟨y, hy⟩ : ∃ y, 18446744073709551616 - x = y := ⟨_, rfl⟩
 have hw1 : IntKind.u64.wrap (-((x : Nat) : Int)) = ((y : Nat) : Int) := by rw [IntKind.wrap_u64]; omega
 obtain ⟨q, hq⟩ : ∃ q, 2 ^ s = q := ⟨_, rfl⟩
 obtain ⟨V, i, hV, hi, hi64, ht⟩ := tz_at s hs
 rw [hq] at hV hlb
 have hw2 : bits .and .u64 ((x : Nat) : Int) ((y : Nat) : Int) = ((q : Nat) : Int) := by
  have h := bits_and_u64_nat x y hb (by omega)
  rw [← hy, hlb] at h
  rw [← hy]
  exact h
 have hw3 : IntKind.u64.wrap (((q : Nat) : Int) * 285870213051353865) = ((V : Nat) : Int) := by rw [IntKind.wrap_u64, ← hV]; omega
 have hw4 : ((V : Nat) : Int) / 288230376151711744 = ((i : Nat) : Int) := by omega
 have hc := hT i hi64
 rw [ht] at hc
 have hne : (((x : Nat) : Int) == 0) = false := by rw [beq_eq_false_iff_ne]; omega
 have hi1 : ((i : Nat) : Int) < 64 := by omega
 have hcv : IntKind.i64.wrap ((s : Nat) : Int) = ((s : Nat) : Int) := by simp only [IntKind.wrap_i64]; omega
 have hs0 : IntKind.u8.wrap ((s : Nat) : Int) = ((s : Nat) : Int) := by simp only [IntKind.wrap_u8]; omega
 clear hq hV hi ht hlb hy hx hd hb hs hp hT
 go_enter Tryz.func172, Tryz.ntmps172
 go_wp2_with fail
 exact bodyPost_ret (v := .int .i64 ((s : Nat) : Int)) (by simp [results, Tryz.results172, go_sem]) rfl ⟨_, rfl, Ext.refl _, rfl⟩
theorem lz_f (n : Nat) (hn : n < 18446744073709551616) : ∀ w, Calls Tryz.prog 212 #[.int .u64 ((n : Nat) : Int)] w fun e w' => e = .returned (.int .i64 (64 - (Lib.bitLen n : Int))) ∧ w' = w := fun w => Tryz.bits_LeadingZeros64 ((n : Nat) : Int) w (by omega) (by omega)
theorem wl (z : Int) : ∃ v : Nat, IntKind.u64.wrap z = ((v : Nat) : Int) ∧ v < 18446744073709551616 := by
 refine ⟨(IntKind.u64.wrap z).toNat, ?_, ?_⟩ <;> rw [IntKind.wrap_u64] <;> omega
set_option maxRecDepth 100000 in
set_option maxHeartbeats 4000000 in
theorem Div64_h (w : World) (hi lo n : Nat) (h0 : 0 < hi) (hh : hi < n) (hl : lo < 18446744073709551616) (hn : n < 9223372036854775808) :
  Calls Tryz.prog 196 #[.int .u64 ((hi : Nat) : Int), .int .u64 ((lo : Nat) : Int), .int .u64 ((n : Nat) : Int)] w (Ret w (fun v _ => ∃ q r : Nat, v = .tuple #[.int .u64 ((q : Nat) : Int), .int .u64 ((r : Nat) : Int)] ∧ r < 2 ^ Lib.bitLen n)) := by
 have hlz := lz_f n (by omega)
 obtain ⟨hb1, hb2, hb3⟩ := Lib.bitLenAux_bounds 64 n (by omega) (by omega)
 have e64 : Lib.bitLenAux 64 n = Lib.bitLen n := rfl
 rw [e64] at hb1 hb2 hb3
 clear e64
 generalize Lib.bitLen n = t at *
 have ht : t ≤ 63 := by
  rcases Nat.lt_or_ge 63 t with h | h
  ·have h1 := Nat.pow_le_pow_right (n := 2) (by decide) (show 63 ≤ t - 1 by omega)
   have : (2 : Nat) ^ 63 = 9223372036854775808 := by decide
   omega
  ·exact h
 obtain ⟨s, hs⟩ : ∃ s, 64 - t = s := ⟨_, rfl⟩
 have hs1 : (64 - ((t : Nat) : Int)) = ((s : Nat) : Int) := by omega
 have hs2 : IntKind.u64.wrap ((s : Nat) : Int) = ((s : Nat) : Int) := by rw [IntKind.wrap_u64]; omega
 have hs3 : IntKind.u64.wrap (64 - ((s : Nat) : Int)) = ((t : Nat) : Int) := by rw [IntKind.wrap_u64]; omega
 rw [hs1] at hlz
 have f1 : (((n : Nat) : Int) == 0) = false := by rw [beq_eq_false_iff_ne]; omega
 have f3 : (((hi : Nat) : Int) == 0) = false := by rw [beq_eq_false_iff_ne]; omega
 have f4 : hi < n := hh
 have f5 : ((s : Nat) : Int) < 64 := by omega
 have f6 : 0 ≤ ((s : Nat) : Int) := by omega
 have f7 : ((t : Nat) : Int) < 64 := by omega
 have f8 : 0 ≤ ((t : Nat) : Int) := by omega
 have hp : 0 < 2 ^ s := Nat.pow_pos (by decide)
 have hY : 9223372036854775808 ≤ n * 2 ^ s ∧ n * 2 ^ s < 18446744073709551616 := by
  constructor
  ·have h1 := Nat.mul_le_mul_right (2 ^ s) hb2
   rw [← Nat.pow_add, show t - 1 + s = 63 by omega] at h1
   exact h1
  ·have h1 := Nat.mul_lt_mul_of_pos_right hb3 hp
   rw [← Nat.pow_add, show t + s = 64 by omega] at h1
   exact h1
 have HR := hid (show ∀ V : Nat, V < 18446744073709551616 → V / 2 ^ s < 2 ^ t from fun V hV => by
  rw [Nat.div_lt_iff_lt_mul hp, ← Nat.pow_add, show t + s = 64 by omega]
  exact hV)
 obtain ⟨Y, hYe⟩ : ∃ Y, n * 2 ^ s = Y := ⟨_, rfl⟩
 rw [hYe] at hY
 have w1 : IntKind.u64.wrap (((n : Nat) : Int) * 2 ^ s) = ((Y : Nat) : Int) := by
  have : ((n : Nat) : Int) * 2 ^ s = ((Y : Nat) : Int) := by rw [← hYe]; simp
  rw [this, IntKind.wrap_u64]; omega
 obtain ⟨y1, hy1⟩ : ∃ y1, Y / 4294967296 = y1 := ⟨_, rfl⟩
 have w2 : ((Y : Nat) : Int) / 4294967296 = ((y1 : Nat) : Int) := by omega
 have hy1b : 2147483648 ≤ y1 ∧ y1 < 4294967296 := by omega
 have hand : ∀ Z : Nat, Z < 18446744073709551616 → ∃ z0 : Nat, bits .and .u64 ((Z : Nat) : Int) 4294967295 = ((z0 : Nat) : Int) := fun Z hZ => ⟨Z &&& 4294967295, bits_and_u64_nat Z 4294967295 hZ (by omega)⟩
 obtain ⟨y0, hy0⟩ := hand Y hY.2
 obtain ⟨A, hA, hAb⟩ := wl (((hi : Nat) : Int) * 2 ^ s)
 obtain ⟨B, hB⟩ : ∃ B, lo / 2 ^ t = B := ⟨_, rfl⟩
 have w3 : ((lo : Nat) : Int) / 2 ^ t = ((B : Nat) : Int) := by rw [← hB]; simp
 have hBb : B ≤ lo := by rw [← hB]; exact Nat.div_le_self _ _
 obtain ⟨U, hU, hUb⟩ : ∃ U : Nat, bits .or .u64 ((A : Nat) : Int) ((B : Nat) : Int) = ((U : Nat) : Int) ∧ U < 18446744073709551616 :=
  ⟨A ||| B, bits_or_u64_nat A B hAb (by omega), Nat.or_lt_two_pow (n := 64) hAb (by omega)⟩
 obtain ⟨L, hL, hLb⟩ := wl (((lo : Nat) : Int) * 2 ^ s)
 obtain ⟨l1, hl1⟩ : ∃ l1, L / 4294967296 = l1 := ⟨_, rfl⟩
 have w4 : ((L : Nat) : Int) / 4294967296 = ((l1 : Nat) : Int) := by omega
 obtain ⟨l0, hl0⟩ := hand L hLb
 have hdiv : ∀ U : Nat, U < 18446744073709551616 → ∃ q P r : Nat, ((U : Nat) : Int).tdiv ((y1 : Nat) : Int) = ((q : Nat) : Int) ∧ ((U : Nat) : Int) / ((y1 : Nat) : Int) = ((q : Nat) : Int) ∧ IntKind.u64.wrap ((q : Nat) : Int) = ((q : Nat) : Int) ∧ IntKind.u64.wrap (((q : Nat) : Int) * ((y1 : Nat) : Int)) = ((P : Nat) : Int) ∧ IntKind.u64.wrap (((U : Nat) : Int) - ((P : Nat) : Int)) = ((r : Nat) : Int) ∧ r < 4294967296 ∧ q < 18446744073709551616 := by
  intro U hU
  have h1 := Nat.div_mul_le_self U y1
  have h2 := Nat.div_le_self U y1
  have h3 := Nat.mod_lt U (show y1 > 0 by omega)
  have h4 := Nat.div_add_mod U y1
  rw [Nat.mul_comm] at h4
  have h5 : ((U : Nat) : Int) / ((y1 : Nat) : Int) = ((U / y1 : Nat) : Int) := (Int.natCast_ediv _ _).symm
  have h6 : ((U : Nat) : Int).tdiv ((y1 : Nat) : Int) = ((U / y1 : Nat) : Int) := by rw [Int.tdiv_eq_ediv_of_nonneg (by omega)]; exact h5
  generalize U / y1 = q at *
  generalize U % y1 = r at *
  obtain ⟨P, hP⟩ : ∃ P, q * y1 = P := ⟨_, rfl⟩
  have h7 : ((q : Nat) : Int) * ((y1 : Nat) : Int) = ((P : Nat) : Int) := by rw [← hP]; simp
  rw [hP] at h1 h4
  exact ⟨q, P, r, h6, h5, by rw [IntKind.wrap_u64]; omega, by rw [h7, IntKind.wrap_u64]; omega, by rw [IntKind.wrap_u64]; omega, by omega, by omega⟩
 obtain ⟨q1, P1, r1, d1, d2, d3, d4, d5, r1b, q1b⟩ := hdiv U hUb
 have w5 : (((y1 : Nat) : Int) == 0) = false := by rw [beq_eq_false_iff_ne]; omega
 have w6 : ¬ ((y1 : Nat) : Int) = 0 := by omega
 have w7 : ¬ y1 = 0 := by omega
 have HD := hid hdiv
 have Hy1 := hid hy1b
 have HQR := hid (And.intro r1b q1b)
 clear hs1 hs ht hb1 hb2 hb3 hn hh hl h0 hYe hy1 hy1b hY hand hAb hB hBb hUb hLb hl1 hdiv hp r1b q1b
 go_enter Tryz.func196, Tryz.ntmps196
 go_upto_region 17 with (go_at_call 212; refine Calls.mono (hlz _) ?_; rintro e ww ⟨rfl, rfl⟩)
 clear hlz f1 f3 f4 hs2 hs3 w1 w2 w3 hU hA hL w4 hl0 hy0 d1 d2 d3 d4 d5
 go_loopg [15, 16] (4294967296 - r1) (fun gk vq vr wr => ∃ (q r : Nat), vq = .int .u64 ((q : Nat) : Int) ∧ vr = .int .u64 ((r : Nat) : Int) ∧ r + gk = 4294967296 ∧ 0 < gk ∧ ww = wr)
 case atStart => exact ⟨q1, r1, rfl, rfl, by have := HQR.out; omega, by have := HQR.out; omega, rfl⟩
 case round =>
  obtain ⟨q, r, rfl, rfl, hrg, hg0, rfl⟩ := hrel
  have hyy := Hy1.out
  obtain ⟨m1, e1, _⟩ := wl (((q : Nat) : Int) * ((y0 : Nat) : Int))
  obtain ⟨m2, e2, _⟩ := wl (4294967296 * ((r : Nat) : Int))
  obtain ⟨m3, e3, _⟩ := wl (((m2 : Nat) : Int) + ((l1 : Nat) : Int))
  obtain ⟨Z, eZ, _⟩ := wl (((q : Nat) : Int) - 1)
  have e4 : IntKind.u64.wrap (((r : Nat) : Int) + ((y1 : Nat) : Int)) = ((r + y1 : Nat) : Int) := by rw [IntKind.wrap_u64]; omega
  obtain ⟨r2, hr2⟩ : ∃ r2, r + y1 = r2 := ⟨_, rfl⟩
  rw [hr2] at e4
  rcases Nat.lt_or_ge q 4294967296 with c1 | c1
  ·have c1' : decide ((4294967296 : Int) ≤ ((q : Nat) : Int)) = false := by rw [decide_eq_false_iff_not]; omega
   rcases Nat.lt_or_ge m3 m1 with c2 | c2
   ·have c2' : decide (((m3 : Nat) : Int) < ((m1 : Nat) : Int)) = true := by rw [decide_eq_true_eq]; omega
    rcases Nat.lt_or_ge r2 4294967296 with c3 | c3
    ·have c3' : decide ((4294967296 : Int) ≤ ((r2 : Nat) : Int)) = false := by rw [decide_eq_false_iff_not]; omega
     have HG := hid (And.intro hrg (And.intro hg0 (And.intro hr2 (And.intro hyy c3))))
     clear hrg hg0 hr2 hyy
     go_wp2_with fail
     go_roundg (4294967296 - r2)
     case measure => have := HG.out; omega
     case rel => exact ⟨Z, r2, rfl, rfl, by have := HG.out; omega, by have := HG.out; omega, rfl⟩
    ·have c3' : decide ((4294967296 : Int) ≤ ((r2 : Nat) : Int)) = true := by rw [decide_eq_true_eq]; omega
     clear hrg hg0 hr2 hyy
     obtain ⟨x1, i1, _⟩ := wl (((U : Nat) : Int) * 4294967296)
     obtain ⟨x2, i2, _⟩ := wl (((x1 : Nat) : Int) + ((l1 : Nat) : Int))
     obtain ⟨x3, i3, _⟩ := wl (((Z : Nat) : Int) * ((Y : Nat) : Int))
     obtain ⟨un, i4, unb⟩ := wl (((x2 : Nat) : Int) - ((x3 : Nat) : Int))
     obtain ⟨q2, P2, rr2, d1, d2, d3, d4, d5, r2b, q2b⟩ := HD.out un unb
     have HQ2 := hid (And.intro r2b q2b)
     clear unb r2b q2b
     go_upto_region 24 with (fail)
     clear i1 i2 i3 i4 d1 d2 d3 d4 d5
     try clear c1'
     try clear c2'
     try clear c3'
     try clear e1 e2 e3
     try clear eZ
     try clear e4
     try clear c1
     try clear c2
     try clear c3
     obtain ⟨Zp, rfl⟩ : ∃ Zp : Nat, Zp = Z := ⟨_, rfl⟩
     go_loopg [18, 16] (4294967296 - rr2) (fun gk vq vr wr => ∃ (q r : Nat), vq = .int .u64 ((q : Nat) : Int) ∧ vr = .int .u64 ((r : Nat) : Int) ∧ r + gk = 4294967296 ∧ 0 < gk ∧ ww = wr)
     case atStart => exact ⟨q2, rr2, rfl, rfl, by have := HQ2.out; omega, by have := HQ2.out; omega, rfl⟩
     case round =>
      obtain ⟨q, r, rfl, rfl, hrg, hg0, rfl⟩ := hrel
      have hyy := Hy1.out
      obtain ⟨m1, e1, _⟩ := wl (((q : Nat) : Int) * ((y0 : Nat) : Int))
      obtain ⟨m2, e2, _⟩ := wl (4294967296 * ((r : Nat) : Int))
      obtain ⟨m3, e3, _⟩ := wl (((m2 : Nat) : Int) + ((l0 : Nat) : Int))
      obtain ⟨Z, eZ, _⟩ := wl (((q : Nat) : Int) - 1)
      have e4 : IntKind.u64.wrap (((r : Nat) : Int) + ((y1 : Nat) : Int)) = ((r + y1 : Nat) : Int) := by rw [IntKind.wrap_u64]; omega
      obtain ⟨r2, hr2⟩ : ∃ r2, r + y1 = r2 := ⟨_, rfl⟩
      rw [hr2] at e4
      rcases Nat.lt_or_ge q 4294967296 with c1 | c1
      ·have c1' : decide ((4294967296 : Int) ≤ ((q : Nat) : Int)) = false := by rw [decide_eq_false_iff_not]; omega
       rcases Nat.lt_or_ge m3 m1 with c2 | c2
       ·have c2' : decide (((m3 : Nat) : Int) < ((m1 : Nat) : Int)) = true := by rw [decide_eq_true_eq]; omega
        rcases Nat.lt_or_ge r2 4294967296 with c3 | c3
        ·have c3' : decide ((4294967296 : Int) ≤ ((r2 : Nat) : Int)) = false := by rw [decide_eq_false_iff_not]; omega
         have HG := hid (And.intro hrg (And.intro hg0 (And.intro hr2 (And.intro hyy c3))))
         clear hrg hg0 hr2 hyy
         go_wp2_with fail
         go_roundg (4294967296 - r2)
         case measure => have := HG.out; omega
         case rel => exact ⟨Z, r2, rfl, rfl, by have := HG.out; omega, by have := HG.out; omega, rfl⟩
        ·have c3' : decide ((4294967296 : Int) ≤ ((r2 : Nat) : Int)) = true := by rw [decide_eq_true_eq]; omega
         clear hrg hg0 hr2 hyy
         obtain ⟨x5, j5, _⟩ := wl (((Zp : Nat) : Int) * 4294967296)
         obtain ⟨x6, j6, _⟩ := wl (((x5 : Nat) : Int) + ((Z : Nat) : Int))
         obtain ⟨x7, j7, _⟩ := wl (((un : Nat) : Int) * 4294967296)
         obtain ⟨x8, j8, _⟩ := wl (((x7 : Nat) : Int) + ((l0 : Nat) : Int))
         obtain ⟨x9, j9, _⟩ := wl (((Z : Nat) : Int) * ((Y : Nat) : Int))
         obtain ⟨V, jV, hVb⟩ := wl (((x8 : Nat) : Int) - ((x9 : Nat) : Int))
         obtain ⟨R, hRe⟩ : ∃ R, V / 2 ^ s = R := ⟨_, rfl⟩
         have jR : ((V : Nat) : Int) / 2 ^ s = ((R : Nat) : Int) := by rw [← hRe]; simp
         have HRR := hid (show R < 2 ^ t by rw [← hRe]; exact HR.out V hVb)
         clear hRe hVb
         go_wp2_with fail
         exact bodyPost_ret (v := .tuple #[.int .u64 ((x6 : Nat) : Int), .int .u64 ((R : Nat) : Int)]) (by simp [results, Tryz.results196, go_sem]) rfl (⟨_, rfl, Ext.refl _, _, _, rfl, HRR.out⟩)
       ·have c2' : decide (((m3 : Nat) : Int) < ((m1 : Nat) : Int)) = false := by rw [decide_eq_false_iff_not]; omega
        clear hrg hg0 hr2 hyy eZ e4
        obtain ⟨Z, rfl⟩ : ∃ Z : Nat, Z = q := ⟨_, rfl⟩
        obtain ⟨x5, j5, _⟩ := wl (((Zp : Nat) : Int) * 4294967296)
        obtain ⟨x6, j6, _⟩ := wl (((x5 : Nat) : Int) + ((Z : Nat) : Int))
        obtain ⟨x7, j7, _⟩ := wl (((un : Nat) : Int) * 4294967296)
        obtain ⟨x8, j8, _⟩ := wl (((x7 : Nat) : Int) + ((l0 : Nat) : Int))
        obtain ⟨x9, j9, _⟩ := wl (((Z : Nat) : Int) * ((Y : Nat) : Int))
        obtain ⟨V, jV, hVb⟩ := wl (((x8 : Nat) : Int) - ((x9 : Nat) : Int))
        obtain ⟨R, hRe⟩ : ∃ R, V / 2 ^ s = R := ⟨_, rfl⟩
        have jR : ((V : Nat) : Int) / 2 ^ s = ((R : Nat) : Int) := by rw [← hRe]; simp
        have HRR := hid (show R < 2 ^ t by rw [← hRe]; exact HR.out V hVb)
        clear hRe hVb
        go_wp2_with fail
        exact bodyPost_ret (v := .tuple #[.int .u64 ((x6 : Nat) : Int), .int .u64 ((R : Nat) : Int)]) (by simp [results, Tryz.results196, go_sem]) rfl (⟨_, rfl, Ext.refl _, _, _, rfl, HRR.out⟩)
      ·have c1' : decide ((4294967296 : Int) ≤ ((q : Nat) : Int)) = true := by rw [decide_eq_true_eq]; omega
       clear e1 e2 e3
       rcases Nat.lt_or_ge r2 4294967296 with c3 | c3
       ·have c3' : decide ((4294967296 : Int) ≤ ((r2 : Nat) : Int)) = false := by rw [decide_eq_false_iff_not]; omega
        have HG := hid (And.intro hrg (And.intro hg0 (And.intro hr2 (And.intro hyy c3))))
        clear hrg hg0 hr2 hyy
        go_wp2_with fail
        go_roundg (4294967296 - r2)
        case measure => have := HG.out; omega
        case rel => exact ⟨Z, r2, rfl, rfl, by have := HG.out; omega, by have := HG.out; omega, rfl⟩
       ·have c3' : decide ((4294967296 : Int) ≤ ((r2 : Nat) : Int)) = true := by rw [decide_eq_true_eq]; omega
        clear hrg hg0 hr2 hyy
        obtain ⟨x5, j5, _⟩ := wl (((Zp : Nat) : Int) * 4294967296)
        obtain ⟨x6, j6, _⟩ := wl (((x5 : Nat) : Int) + ((Z : Nat) : Int))
        obtain ⟨x7, j7, _⟩ := wl (((un : Nat) : Int) * 4294967296)
        obtain ⟨x8, j8, _⟩ := wl (((x7 : Nat) : Int) + ((l0 : Nat) : Int))
        obtain ⟨x9, j9, _⟩ := wl (((Z : Nat) : Int) * ((Y : Nat) : Int))
        obtain ⟨V, jV, hVb⟩ := wl (((x8 : Nat) : Int) - ((x9 : Nat) : Int))
        obtain ⟨R, hRe⟩ : ∃ R, V / 2 ^ s = R := ⟨_, rfl⟩
        have jR : ((V : Nat) : Int) / 2 ^ s = ((R : Nat) : Int) := by rw [← hRe]; simp
        have HRR := hid (show R < 2 ^ t by rw [← hRe]; exact HR.out V hVb)
        clear hRe hVb
        go_wp2_with fail
        exact bodyPost_ret (v := .tuple #[.int .u64 ((x6 : Nat) : Int), .int .u64 ((R : Nat) : Int)]) (by simp [results, Tryz.results196, go_sem]) rfl (⟨_, rfl, Ext.refl _, _, _, rfl, HRR.out⟩)
   ·have c2' : decide (((m3 : Nat) : Int) < ((m1 : Nat) : Int)) = false := by rw [decide_eq_false_iff_not]; omega
    clear hrg hg0 hr2 hyy eZ e4
    obtain ⟨Z, rfl⟩ : ∃ Z : Nat, Z = q := ⟨_, rfl⟩
    obtain ⟨x1, i1, _⟩ := wl (((U : Nat) : Int) * 4294967296)
    obtain ⟨x2, i2, _⟩ := wl (((x1 : Nat) : Int) + ((l1 : Nat) : Int))
    obtain ⟨x3, i3, _⟩ := wl (((Z : Nat) : Int) * ((Y : Nat) : Int))
    obtain ⟨un, i4, unb⟩ := wl (((x2 : Nat) : Int) - ((x3 : Nat) : Int))
    obtain ⟨q2, P2, rr2, d1, d2, d3, d4, d5, r2b, q2b⟩ := HD.out un unb
    have HQ2 := hid (And.intro r2b q2b)
    clear unb r2b q2b
    go_upto_region 24 with (fail)
    clear i1 i2 i3 i4 d1 d2 d3 d4 d5
    try clear c1'
    try clear c2'
    try clear c3'
    try clear e1 e2 e3
    try clear eZ
    try clear e4
    try clear c1
    try clear c2
    try clear c3
    obtain ⟨Zp, rfl⟩ : ∃ Zp : Nat, Zp = Z := ⟨_, rfl⟩
    go_loopg [18, 16] (4294967296 - rr2) (fun gk vq vr wr => ∃ (q r : Nat), vq = .int .u64 ((q : Nat) : Int) ∧ vr = .int .u64 ((r : Nat) : Int) ∧ r + gk = 4294967296 ∧ 0 < gk ∧ ww = wr)
    case atStart => exact ⟨q2, rr2, rfl, rfl, by have := HQ2.out; omega, by have := HQ2.out; omega, rfl⟩
    case round =>
     obtain ⟨q, r, rfl, rfl, hrg, hg0, rfl⟩ := hrel
     have hyy := Hy1.out
     obtain ⟨m1, e1, _⟩ := wl (((q : Nat) : Int) * ((y0 : Nat) : Int))
     obtain ⟨m2, e2, _⟩ := wl (4294967296 * ((r : Nat) : Int))
     obtain ⟨m3, e3, _⟩ := wl (((m2 : Nat) : Int) + ((l0 : Nat) : Int))
     obtain ⟨Z, eZ, _⟩ := wl (((q : Nat) : Int) - 1)
     have e4 : IntKind.u64.wrap (((r : Nat) : Int) + ((y1 : Nat) : Int)) = ((r + y1 : Nat) : Int) := by rw [IntKind.wrap_u64]; omega
     obtain ⟨r2, hr2⟩ : ∃ r2, r + y1 = r2 := ⟨_, rfl⟩
     rw [hr2] at e4
     rcases Nat.lt_or_ge q 4294967296 with c1 | c1
     ·have c1' : decide ((4294967296 : Int) ≤ ((q : Nat) : Int)) = false := by rw [decide_eq_false_iff_not]; omega
      rcases Nat.lt_or_ge m3 m1 with c2 | c2
      ·have c2' : decide (((m3 : Nat) : Int) < ((m1 : Nat) : Int)) = true := by rw [decide_eq_true_eq]; omega
       rcases Nat.lt_or_ge r2 4294967296 with c3 | c3
       ·have c3' : decide ((4294967296 : Int) ≤ ((r2 : Nat) : Int)) = false := by rw [decide_eq_false_iff_not]; omega
        have HG := hid (And.intro hrg (And.intro hg0 (And.intro hr2 (And.intro hyy c3))))
        clear hrg hg0 hr2 hyy
        go_wp2_with fail
        go_roundg (4294967296 - r2)
        case measure => have := HG.out; omega
        case rel => exact ⟨Z, r2, rfl, rfl, by have := HG.out; omega, by have := HG.out; omega, rfl⟩
       ·have c3' : decide ((4294967296 : Int) ≤ ((r2 : Nat) : Int)) = true := by rw [decide_eq_true_eq]; omega
        clear hrg hg0 hr2 hyy
        obtain ⟨x5, j5, _⟩ := wl (((Zp : Nat) : Int) * 4294967296)
        obtain ⟨x6, j6, _⟩ := wl (((x5 : Nat) : Int) + ((Z : Nat) : Int))
        obtain ⟨x7, j7, _⟩ := wl (((un : Nat) : Int) * 4294967296)
        obtain ⟨x8, j8, _⟩ := wl (((x7 : Nat) : Int) + ((l0 : Nat) : Int))
        obtain ⟨x9, j9, _⟩ := wl (((Z : Nat) : Int) * ((Y : Nat) : Int))
        obtain ⟨V, jV, hVb⟩ := wl (((x8 : Nat) : Int) - ((x9 : Nat) : Int))
        obtain ⟨R, hRe⟩ : ∃ R, V / 2 ^ s = R := ⟨_, rfl⟩
        have jR : ((V : Nat) : Int) / 2 ^ s = ((R : Nat) : Int) := by rw [← hRe]; simp
        have HRR := hid (show R < 2 ^ t by rw [← hRe]; exact HR.out V hVb)
        clear hRe hVb
        go_wp2_with fail
        exact bodyPost_ret (v := .tuple #[.int .u64 ((x6 : Nat) : Int), .int .u64 ((R : Nat) : Int)]) (by simp [results, Tryz.results196, go_sem]) rfl (⟨_, rfl, Ext.refl _, _, _, rfl, HRR.out⟩)
      ·have c2' : decide (((m3 : Nat) : Int) < ((m1 : Nat) : Int)) = false := by rw [decide_eq_false_iff_not]; omega
       clear hrg hg0 hr2 hyy eZ e4
       obtain ⟨Z, rfl⟩ : ∃ Z : Nat, Z = q := ⟨_, rfl⟩
       obtain ⟨x5, j5, _⟩ := wl (((Zp : Nat) : Int) * 4294967296)
       obtain ⟨x6, j6, _⟩ := wl (((x5 : Nat) : Int) + ((Z : Nat) : Int))
       obtain ⟨x7, j7, _⟩ := wl (((un : Nat) : Int) * 4294967296)
       obtain ⟨x8, j8, _⟩ := wl (((x7 : Nat) : Int) + ((l0 : Nat) : Int))
       obtain ⟨x9, j9, _⟩ := wl (((Z : Nat) : Int) * ((Y : Nat) : Int))
       obtain ⟨V, jV, hVb⟩ := wl (((x8 : Nat) : Int) - ((x9 : Nat) : Int))
       obtain ⟨R, hRe⟩ : ∃ R, V / 2 ^ s = R := ⟨_, rfl⟩
       have jR : ((V : Nat) : Int) / 2 ^ s = ((R : Nat) : Int) := by rw [← hRe]; simp
       have HRR := hid (show R < 2 ^ t by rw [← hRe]; exact HR.out V hVb)
       clear hRe hVb
       go_wp2_with fail
       exact bodyPost_ret (v := .tuple #[.int .u64 ((x6 : Nat) : Int), .int .u64 ((R : Nat) : Int)]) (by simp [results, Tryz.results196, go_sem]) rfl (⟨_, rfl, Ext.refl _, _, _, rfl, HRR.out⟩)
     ·have c1' : decide ((4294967296 : Int) ≤ ((q : Nat) : Int)) = true := by rw [decide_eq_true_eq]; omega
      clear e1 e2 e3
      rcases Nat.lt_or_ge r2 4294967296 with c3 | c3
      ·have c3' : decide ((4294967296 : Int) ≤ ((r2 : Nat) : Int)) = false := by rw [decide_eq_false_iff_not]; omega
       have HG := hid (And.intro hrg (And.intro hg0 (And.intro hr2 (And.intro hyy c3))))
       clear hrg hg0 hr2 hyy
       go_wp2_with fail
       go_roundg (4294967296 - r2)
       case measure => have := HG.out; omega
       case rel => exact ⟨Z, r2, rfl, rfl, by have := HG.out; omega, by have := HG.out; omega, rfl⟩
      ·have c3' : decide ((4294967296 : Int) ≤ ((r2 : Nat) : Int)) = true := by rw [decide_eq_true_eq]; omega
       clear hrg hg0 hr2 hyy
       obtain ⟨x5, j5, _⟩ := wl (((Zp : Nat) : Int) * 4294967296)
       obtain ⟨x6, j6, _⟩ := wl (((x5 : Nat) : Int) + ((Z : Nat) : Int))
       obtain ⟨x7, j7, _⟩ := wl (((un : Nat) : Int) * 4294967296)
       obtain ⟨x8, j8, _⟩ := wl (((x7 : Nat) : Int) + ((l0 : Nat) : Int))
       obtain ⟨x9, j9, _⟩ := wl (((Z : Nat) : Int) * ((Y : Nat) : Int))
       obtain ⟨V, jV, hVb⟩ := wl (((x8 : Nat) : Int) - ((x9 : Nat) : Int))
       obtain ⟨R, hRe⟩ : ∃ R, V / 2 ^ s = R := ⟨_, rfl⟩
       have jR : ((V : Nat) : Int) / 2 ^ s = ((R : Nat) : Int) := by rw [← hRe]; simp
       have HRR := hid (show R < 2 ^ t by rw [← hRe]; exact HR.out V hVb)
       clear hRe hVb
       go_wp2_with fail
       exact bodyPost_ret (v := .tuple #[.int .u64 ((x6 : Nat) : Int), .int .u64 ((R : Nat) : Int)]) (by simp [results, Tryz.results196, go_sem]) rfl (⟨_, rfl, Ext.refl _, _, _, rfl, HRR.out⟩)
  ·have c1' : decide ((4294967296 : Int) ≤ ((q : Nat) : Int)) = true := by rw [decide_eq_true_eq]; omega
   clear e1 e2 e3
   rcases Nat.lt_or_ge r2 4294967296 with c3 | c3
   ·have c3' : decide ((4294967296 : Int) ≤ ((r2 : Nat) : Int)) = false := by rw [decide_eq_false_iff_not]; omega
    have HG := hid (And.intro hrg (And.intro hg0 (And.intro hr2 (And.intro hyy c3))))
    clear hrg hg0 hr2 hyy
    go_wp2_with fail
    go_roundg (4294967296 - r2)
    case measure => have := HG.out; omega
    case rel => exact ⟨Z, r2, rfl, rfl, by have := HG.out; omega, by have := HG.out; omega, rfl⟩
   ·have c3' : decide ((4294967296 : Int) ≤ ((r2 : Nat) : Int)) = true := by rw [decide_eq_true_eq]; omega
    clear hrg hg0 hr2 hyy
    obtain ⟨x1, i1, _⟩ := wl (((U : Nat) : Int) * 4294967296)
    obtain ⟨x2, i2, _⟩ := wl (((x1 : Nat) : Int) + ((l1 : Nat) : Int))
    obtain ⟨x3, i3, _⟩ := wl (((Z : Nat) : Int) * ((Y : Nat) : Int))
    obtain ⟨un, i4, unb⟩ := wl (((x2 : Nat) : Int) - ((x3 : Nat) : Int))
    obtain ⟨q2, P2, rr2, d1, d2, d3, d4, d5, r2b, q2b⟩ := HD.out un unb
    have HQ2 := hid (And.intro r2b q2b)
    clear unb r2b q2b
    go_upto_region 24 with (fail)
    clear i1 i2 i3 i4 d1 d2 d3 d4 d5
    try clear c1'
    try clear c2'
    try clear c3'
    try clear e1 e2 e3
    try clear eZ
    try clear e4
    try clear c1
    try clear c2
    try clear c3
    obtain ⟨Zp, rfl⟩ : ∃ Zp : Nat, Zp = Z := ⟨_, rfl⟩
    go_loopg [18, 16] (4294967296 - rr2) (fun gk vq vr wr => ∃ (q r : Nat), vq = .int .u64 ((q : Nat) : Int) ∧ vr = .int .u64 ((r : Nat) : Int) ∧ r + gk = 4294967296 ∧ 0 < gk ∧ ww = wr)
    case atStart => exact ⟨q2, rr2, rfl, rfl, by have := HQ2.out; omega, by have := HQ2.out; omega, rfl⟩
    case round =>
     obtain ⟨q, r, rfl, rfl, hrg, hg0, rfl⟩ := hrel
     have hyy := Hy1.out
     obtain ⟨m1, e1, _⟩ := wl (((q : Nat) : Int) * ((y0 : Nat) : Int))
     obtain ⟨m2, e2, _⟩ := wl (4294967296 * ((r : Nat) : Int))
     obtain ⟨m3, e3, _⟩ := wl (((m2 : Nat) : Int) + ((l0 : Nat) : Int))
     obtain ⟨Z, eZ, _⟩ := wl (((q : Nat) : Int) - 1)
     have e4 : IntKind.u64.wrap (((r : Nat) : Int) + ((y1 : Nat) : Int)) = ((r + y1 : Nat) : Int) := by rw [IntKind.wrap_u64]; omega
     obtain ⟨r2, hr2⟩ : ∃ r2, r + y1 = r2 := ⟨_, rfl⟩
     rw [hr2] at e4
     rcases Nat.lt_or_ge q 4294967296 with c1 | c1
     ·have c1' : decide ((4294967296 : Int) ≤ ((q : Nat) : Int)) = false := by rw [decide_eq_false_iff_not]; omega
      rcases Nat.lt_or_ge m3 m1 with c2 | c2
      ·have c2' : decide (((m3 : Nat) : Int) < ((m1 : Nat) : Int)) = true := by rw [decide_eq_true_eq]; omega
       rcases Nat.lt_or_ge r2 4294967296 with c3 | c3
       ·have c3' : decide ((4294967296 : Int) ≤ ((r2 : Nat) : Int)) = false := by rw [decide_eq_false_iff_not]; omega
        have HG := hid (And.intro hrg (And.intro hg0 (And.intro hr2 (And.intro hyy c3))))
        clear hrg hg0 hr2 hyy
        go_wp2_with fail
        go_roundg (4294967296 - r2)
        case measure => have := HG.out; omega
        case rel => exact ⟨Z, r2, rfl, rfl, by have := HG.out; omega, by have := HG.out; omega, rfl⟩
       ·have c3' : decide ((4294967296 : Int) ≤ ((r2 : Nat) : Int)) = true := by rw [decide_eq_true_eq]; omega
        clear hrg hg0 hr2 hyy
        obtain ⟨x5, j5, _⟩ := wl (((Zp : Nat) : Int) * 4294967296)
        obtain ⟨x6, j6, _⟩ := wl (((x5 : Nat) : Int) + ((Z : Nat) : Int))
        obtain ⟨x7, j7, _⟩ := wl (((un : Nat) : Int) * 4294967296)
        obtain ⟨x8, j8, _⟩ := wl (((x7 : Nat) : Int) + ((l0 : Nat) : Int))
        obtain ⟨x9, j9, _⟩ := wl (((Z : Nat) : Int) * ((Y : Nat) : Int))
        obtain ⟨V, jV, hVb⟩ := wl (((x8 : Nat) : Int) - ((x9 : Nat) : Int))
        obtain ⟨R, hRe⟩ : ∃ R, V / 2 ^ s = R := ⟨_, rfl⟩
        have jR : ((V : Nat) : Int) / 2 ^ s = ((R : Nat) : Int) := by rw [← hRe]; simp
        have HRR := hid (show R < 2 ^ t by rw [← hRe]; exact HR.out V hVb)
        clear hRe hVb
        go_wp2_with fail
        exact bodyPost_ret (v := .tuple #[.int .u64 ((x6 : Nat) : Int), .int .u64 ((R : Nat) : Int)]) (by simp [results, Tryz.results196, go_sem]) rfl (⟨_, rfl, Ext.refl _, _, _, rfl, HRR.out⟩)
      ·have c2' : decide (((m3 : Nat) : Int) < ((m1 : Nat) : Int)) = false := by rw [decide_eq_false_iff_not]; omega
       clear hrg hg0 hr2 hyy eZ e4
       obtain ⟨Z, rfl⟩ : ∃ Z : Nat, Z = q := ⟨_, rfl⟩
       obtain ⟨x5, j5, _⟩ := wl (((Zp : Nat) : Int) * 4294967296)
       obtain ⟨x6, j6, _⟩ := wl (((x5 : Nat) : Int) + ((Z : Nat) : Int))
       obtain ⟨x7, j7, _⟩ := wl (((un : Nat) : Int) * 4294967296)
       obtain ⟨x8, j8, _⟩ := wl (((x7 : Nat) : Int) + ((l0 : Nat) : Int))
       obtain ⟨x9, j9, _⟩ := wl (((Z : Nat) : Int) * ((Y : Nat) : Int))
       obtain ⟨V, jV, hVb⟩ := wl (((x8 : Nat) : Int) - ((x9 : Nat) : Int))
       obtain ⟨R, hRe⟩ : ∃ R, V / 2 ^ s = R := ⟨_, rfl⟩
       have jR : ((V : Nat) : Int) / 2 ^ s = ((R : Nat) : Int) := by rw [← hRe]; simp
       have HRR := hid (show R < 2 ^ t by rw [← hRe]; exact HR.out V hVb)
       clear hRe hVb
       go_wp2_with fail
       exact bodyPost_ret (v := .tuple #[.int .u64 ((x6 : Nat) : Int), .int .u64 ((R : Nat) : Int)]) (by simp [results, Tryz.results196, go_sem]) rfl (⟨_, rfl, Ext.refl _, _, _, rfl, HRR.out⟩)
     ·have c1' : decide ((4294967296 : Int) ≤ ((q : Nat) : Int)) = true := by rw [decide_eq_true_eq]; omega
      clear e1 e2 e3
      rcases Nat.lt_or_ge r2 4294967296 with c3 | c3
      ·have c3' : decide ((4294967296 : Int) ≤ ((r2 : Nat) : Int)) = false := by rw [decide_eq_false_iff_not]; omega
       have HG := hid (And.intro hrg (And.intro hg0 (And.intro hr2 (And.intro hyy c3))))
       clear hrg hg0 hr2 hyy
       go_wp2_with fail
       go_roundg (4294967296 - r2)
       case measure => have := HG.out; omega
       case rel => exact ⟨Z, r2, rfl, rfl, by have := HG.out; omega, by have := HG.out; omega, rfl⟩
      ·have c3' : decide ((4294967296 : Int) ≤ ((r2 : Nat) : Int)) = true := by rw [decide_eq_true_eq]; omega
       clear hrg hg0 hr2 hyy
       obtain ⟨x5, j5, _⟩ := wl (((Zp : Nat) : Int) * 4294967296)
       obtain ⟨x6, j6, _⟩ := wl (((x5 : Nat) : Int) + ((Z : Nat) : Int))
       obtain ⟨x7, j7, _⟩ := wl (((un : Nat) : Int) * 4294967296)
       obtain ⟨x8, j8, _⟩ := wl (((x7 : Nat) : Int) + ((l0 : Nat) : Int))
       obtain ⟨x9, j9, _⟩ := wl (((Z : Nat) : Int) * ((Y : Nat) : Int))
       obtain ⟨V, jV, hVb⟩ := wl (((x8 : Nat) : Int) - ((x9 : Nat) : Int))
       obtain ⟨R, hRe⟩ : ∃ R, V / 2 ^ s = R := ⟨_, rfl⟩
       have jR : ((V : Nat) : Int) / 2 ^ s = ((R : Nat) : Int) := by rw [← hRe]; simp
       have HRR := hid (show R < 2 ^ t by rw [← hRe]; exact HR.out V hVb)
       clear hRe hVb
       go_wp2_with fail
       exact bodyPost_ret (v := .tuple #[.int .u64 ((x6 : Nat) : Int), .int .u64 ((R : Nat) : Int)]) (by simp [results, Tryz.results196, go_sem]) rfl (⟨_, rfl, Ext.refl _, _, _, rfl, HRR.out⟩)

end Go.Proofs.YtknffgdbdadpcaaGreatDoor
