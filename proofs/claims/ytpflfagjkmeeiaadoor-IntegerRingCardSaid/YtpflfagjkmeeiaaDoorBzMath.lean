/-
  The arithmetic of Bezout's loop. No condition.
-/
import Derived.Test.YtpflfagjkmeeiaaDoorGcd
namespace Go.Proofs.YtpflfagjkmeeiaaDoor
open Go Go.RowKit

/-- What the loop of Bezout keeps. -/
structure BzM (z1 z2 : Int) (g : Nat) (x y u t : Int) : Prop where
  hx : ∃ c, x = u * z1 + c * z2
  hy : ∃ c, y = t * z1 + c * z2
  x0 : 0 < x
  y0 : 0 ≤ y
  hg : Int.gcd x y = g
  b : t.natAbs * x.natAbs + u.natAbs * y.natAbs ≤ z2.natAbs
  bu : u.natAbs ≤ z2.natAbs
  bt : t.natAbs ≤ z2.natAbs
  bx : x.natAbs ≤ z2.natAbs
  by' : y.natAbs ≤ z2.natAbs

theorem BzM.start (z1 z2 : Int) (h : z2 ≠ 0) : BzM z1 z2 (Int.gcd z1 z2) (z2.natAbs : Int) (z1 % z2) 0 1 := by
  have h1 := Int.emod_nonneg z1 h
  have h2 := Int.emod_lt z1 h
  have h3 : z2.sign * z2 = z2.natAbs := by rw [Int.mul_comm]; exact Int.mul_sign_self z2
  refine ⟨⟨z2.sign, by rw [h3]; omega⟩, ⟨-(z1 / z2), ?_⟩, by omega, h1, ?_, by simp, by simp, by simp; omega, by simp, by omega⟩
  · have := Int.emod_add_mul_ediv z1 z2
    grind
  · rw [show Int.gcd (z2.natAbs : Int) (z1 % z2) = Int.gcd z2 (z1 % z2) from by simp [Int.gcd], gcd_step]

theorem BzM.step {z1 z2 : Int} {g : Nat} {x y u t : Int} (h : BzM z1 z2 g x y u t) (hy : y ≠ 0) : BzM z1 z2 g y (x % y) t (u - x / y * t) := by
  obtain ⟨⟨c, hc⟩, ⟨d, hd⟩, x0, y0, hg, b, bu, bt, bx, by'⟩ := h
  have h1 := Int.emod_nonneg x hy
  have h2 := Int.emod_lt x hy
  have h3 := Int.emod_add_mul_ediv x y
  have h4 : (x % y).natAbs < y.natAbs := by omega
  have hq : 0 ≤ x / y := Int.ediv_nonneg (by omega) (by omega)
  have hb : (u - x / y * t).natAbs * y.natAbs + t.natAbs * (x % y).natAbs ≤ z2.natAbs := by
    have e1 : (u - x / y * t).natAbs ≤ u.natAbs + (x / y).natAbs * t.natAbs := by
      have := Int.natAbs_sub_le u (x / y * t)
      rwa [Int.natAbs_mul] at this
    have e2 : x.natAbs = y.natAbs * (x / y).natAbs + (x % y).natAbs := by
      have : (x.natAbs : Int) = ((y.natAbs * (x / y).natAbs + (x % y).natAbs : Nat) : Int) := by
        rw [Int.natCast_add, Int.natCast_mul, Int.natAbs_of_nonneg (by omega), Int.natAbs_of_nonneg y0, Int.natAbs_of_nonneg hq, Int.natAbs_of_nonneg h1]
        omega
      exact_mod_cast this
    have e3 := Nat.mul_le_mul_right y.natAbs e1
    rw [e2] at b
    rw [Nat.add_mul] at e3
    have e4 : (x / y).natAbs * t.natAbs * y.natAbs = t.natAbs * (y.natAbs * (x / y).natAbs) := by grind
    rw [e4] at e3
    rw [Nat.mul_add] at b
    omega
  refine ⟨⟨d, hd⟩, ⟨c - x / y * d, ?_⟩, by omega, h1, ?_, hb, bt, ?_, by', by omega⟩
  · have : x % y = x - y * (x / y) := by omega
    rw [this]
    generalize x / y = q
    rw [hc, hd]; grind
  · rw [gcd_step]; exact hg
  · have : (u - x / y * t).natAbs * 1 ≤ (u - x / y * t).natAbs * y.natAbs := Nat.mul_le_mul_left _ (by omega)
    omega

theorem BzM.fin {z1 z2 : Int} {g : Nat} {x u t : Int} (h : BzM z1 z2 g x 0 u t) (h2 : z2 ≠ 0) (hgd : g = Int.gcd z1 z2) :
    x = g ∧ z2 / x ≠ 0 ∧ (x - u % (z2 / x) * z1) % z2 = 0 := by
  obtain ⟨⟨c, hc⟩, _, x0, _, hg, _⟩ := h
  rw [Int.gcd_zero_right] at hg
  have hxg : x = g := by omega
  have d2 : x ∣ z2 := by rw [hxg, hgd]; exact Int.gcd_dvd_right ..
  have d1 : x ∣ z1 := by rw [hxg, hgd]; exact Int.gcd_dvd_left ..
  obtain ⟨n, hn⟩ := d2
  obtain ⟨m, hm⟩ := d1
  have hdiv : z2 / x = n := by rw [hn, Int.mul_comm]; exact Int.mul_ediv_cancel _ (by omega)
  have hn0 : n ≠ 0 := fun h0 => h2 (by rw [hn, h0, Int.mul_zero])
  refine ⟨hxg, by rw [hdiv]; exact hn0, ?_⟩
  rw [hdiv]
  refine Int.emod_eq_zero_of_dvd ⟨c + u / n * m, ?_⟩
  have hmod : u % n = u - n * (u / n) := by have := Int.emod_add_mul_ediv u n; omega
  rw [hmod]
  generalize u / n = a
  have : x - (u - n * a) * z1 = (x - u * z1) + n * a * z1 := by grind
  rw [this, show x - u * z1 = c * z2 by omega, hm]
  rw [show n * a * (x * m) = (x * n) * (a * m) by grind, ← hn]
  grind
end Go.Proofs.YtpflfagjkmeeiaaDoor
