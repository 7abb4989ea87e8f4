/-
  The arithmetic of Bezout's loop. No condition. Boxes of integers that are written one after another. No condition.
  Integers of package integer: Bezout. Every two integers of at most 2^26 words. Integers of package integer: power. Every integer and every exponent whose power has at most 2^27 words. cmp.Or of two ints, the second of which is 1. No condition.
-/
import Derived.Test.YtcgdkfadcglekaaGreatDoorDivMod
namespace Go.Proofs.YtcgdkfadcglekaaGreatDoor
open Go Go.RowKit

/-- What the loop of Bezout keeps. -/
structure BzM (z1 z2 : Int) (g : Nat) (x y u t : Int) : Prop where
  hx : ∃ c, x = u * z1 + c * z2
  hy : ∃ c, y = t * z1 + c * z2
  x0 : 0 < x
  y0 : 0 ≤ y
  hg : Int.gcd x y = g
  b : t.natAbs * x.natAbs + u.natAbs * y.natAbs ≤ z2.natAbs
  bu : u.natAbs ≤ z2.natAbs
  bt : t.natAbs ≤ z2.natAbs
  bx : x.natAbs ≤ z2.natAbs
  by' : y.natAbs ≤ z2.natAbs

theorem BzM.start (z1 z2 : Int) (h : z2 ≠ 0) : BzM z1 z2 (Int.gcd z1 z2) (z2.natAbs : Int) (z1 % z2) 0 1 := by
  have h1 := Int.emod_nonneg z1 h
  have h2 := Int.emod_lt z1 h
  have h3 : z2.sign * z2 = z2.natAbs := by rw [Int.mul_comm]; exact Int.mul_sign_self z2
  refine ⟨⟨z2.sign, by rw [h3]; omega⟩, ⟨-(z1 / z2), ?_⟩, by omega, h1, ?_, by simp, by simp, by simp; omega, by simp, by omega⟩
  · have := Int.emod_add_mul_ediv z1 z2
    grind
  · rw [show Int.gcd (z2.natAbs : Int) (z1 % z2) = Int.gcd z2 (z1 % z2) from by simp [Int.gcd], gcd_step]

theorem BzM.step {z1 z2 : Int} {g : Nat} {x y u t : Int} (h : BzM z1 z2 g x y u t) (hy : y ≠ 0) : BzM z1 z2 g y (x % y) t (u - x / y * t) := by
  obtain ⟨⟨c, hc⟩, ⟨d, hd⟩, x0, y0, hg, b, bu, bt, bx, by'⟩ := h
  have h1 := Int.emod_nonneg x hy
  have h2 := Int.emod_lt x hy
  have h3 := Int.emod_add_mul_ediv x y
  have h4 : (x % y).natAbs < y.natAbs := by omega
  have hq : 0 ≤ x / y := Int.ediv_nonneg (by omega) (by omega)
  have hb : (u - x / y * t).natAbs * y.natAbs + t.natAbs * (x % y).natAbs ≤ z2.natAbs := by
    have e1 : (u - x / y * t).natAbs ≤ u.natAbs + (x / y).natAbs * t.natAbs := by
      have := Int.natAbs_sub_le u (x / y * t)
      rwa [Int.natAbs_mul] at this
    have e2 : x.natAbs = y.natAbs * (x / y).natAbs + (x % y).natAbs := by
      have : (x.natAbs : Int) = ((y.natAbs * (x / y).natAbs + (x % y).natAbs : Nat) : Int) := by
        rw [Int.natCast_add, Int.natCast_mul, Int.natAbs_of_nonneg (by omega), Int.natAbs_of_nonneg y0, Int.natAbs_of_nonneg hq, Int.natAbs_of_nonneg h1]
        omega
      exact_mod_cast this
    have e3 := Nat.mul_le_mul_right y.natAbs e1
    rw [e2] at b
    rw [Nat.add_mul] at e3
    have e4 : (x / y).natAbs * t.natAbs * y.natAbs = t.natAbs * (y.natAbs * (x / y).natAbs) := by grind
    rw [e4] at e3
    rw [Nat.mul_add] at b
    omega
  refine ⟨⟨d, hd⟩, ⟨c - x / y * d, ?_⟩, by omega, h1, ?_, hb, bt, ?_, by', by omega⟩
  · have : x % y = x - y * (x / y) := by omega
    rw [this]
    generalize x / y = q
    rw [hc, hd]; grind
  · rw [gcd_step]; exact hg
  · have : (u - x / y * t).natAbs * 1 ≤ (u - x / y * t).natAbs * y.natAbs := Nat.mul_le_mul_left _ (by omega)
    omega

theorem BzM.fin {z1 z2 : Int} {g : Nat} {x u t : Int} (h : BzM z1 z2 g x 0 u t) (h2 : z2 ≠ 0) (hgd : g = Int.gcd z1 z2) :
    x = g ∧ z2 / x ≠ 0 ∧ (x - u % (z2 / x) * z1) % z2 = 0 := by
  obtain ⟨⟨c, hc⟩, _, x0, _, hg, _⟩ := h
  rw [Int.gcd_zero_right] at hg
  have hxg : x = g := by omega
  have d2 : x ∣ z2 := by rw [hxg, hgd]; exact Int.gcd_dvd_right ..
  have d1 : x ∣ z1 := by rw [hxg, hgd]; exact Int.gcd_dvd_left ..
  obtain ⟨n, hn⟩ := d2
  obtain ⟨m, hm⟩ := d1
  have hdiv : z2 / x = n := by rw [hn, Int.mul_comm]; exact Int.mul_ediv_cancel _ (by omega)
  have hn0 : n ≠ 0 := fun h0 => h2 (by rw [hn, h0, Int.mul_zero])
  refine ⟨hxg, by rw [hdiv]; exact hn0, ?_⟩
  rw [hdiv]
  refine Int.emod_eq_zero_of_dvd ⟨c + u / n * m, ?_⟩
  have hmod : u % n = u - n * (u / n) := by have := Int.emod_add_mul_ediv u n; omega
  rw [hmod]
  generalize u / n = a
  have : x - (u - n * a) * z1 = (x - u * z1) + n * a * z1 := by grind
  rw [this, show x - u * z1 = c * z2 by omega, hm]
  rw [show n * a * (x * m) = (x * n) * (a * m) by grind, ← hn]
  grind
end Go.Proofs.YtcgdkfadcglekaaGreatDoor
namespace Go.Proofs.YtcgdkfadcglekaaGreatDoor
open Go Go.RowKit

/-- A box holds an integer. -/
def BI (w : World) (b k : Nat) (z : Int) : Prop := ∃ s a n c, Bx w b s a n c ∧ IntAt w k s a n c z
theorem BI.ext {w w' : World} {b k : Nat} {z : Int} (h : BI w b k z) (e : Ext w w') : BI w' b k z :=
  let ⟨s, a, n, c, h1, h2⟩ := h; ⟨s, a, n, c, h1.ext e, h2.ext e⟩
theorem BI.lt {w : World} {b k : Nat} {z : Int} (h : BI w b k z) : b < w.heap.size := let ⟨_, _, _, _, h1, _⟩ := h; h1.lt
/-- The box g has been written, nothing else that was there. -/
def Pt (g : Nat) (w w' : World) : Prop :=
  (∀ g2 s a n c, g2 ≠ g → Bx w g2 s a n c → Bx w' g2 s a n c) ∧ Gr w w' ∧ (∀ w0 : World, Ext w0 w → w0.heap.size ≤ g → Ext w0 w')
theorem Bx.pt {g g2 n c : Nat} {s : Bool} {a : Option Addr} {w w' : World} (h : Bx w g2 s a n c) (p : Pt g w w') (hg : g2 ≠ g) : Bx w' g2 s a n c := p.1 _ _ _ _ _ hg h
theorem BI.pt {g b k : Nat} {z : Int} {w w' : World} (h : BI w b k z) (p : Pt g w w') (hg : b ≠ g) : BI w' b k z :=
  let ⟨s, a, n, c, h1, h2⟩ := h; ⟨s, a, n, c, h1.pt p hg, h2.gr p.2.1⟩
theorem IntAt.pt {g k n c : Nat} {s : Bool} {a : Option Addr} {z : Int} {w w' : World} (h : IntAt w k s a n c z) (p : Pt g w w') : IntAt w' k s a n c z := h.gr p.2.1
theorem Ext.pt {w0 w w' : World} {g : Nat} (e : Ext w0 w) (p : Pt g w w') (hg : w0.heap.size ≤ g) : Ext w0 w' := p.2.2 _ e hg
theorem Bx.put' {w : World} {g n c : Nat} {s : Bool} {a : Option Addr} (b : Bx w g s a n c) (s' : Bool) (a' : Option Addr) (n' c' : Nat) :
    ∃ W, W = (w.setCell ⟨g, 0, none⟩ (.bool s')).setCell ⟨g, 1, none⟩ (.slice a' n' c') ∧ Bx W g s' a' n' c' ∧ Pt g w W := by
  obtain ⟨W, h1, h2, h3, h4, h5⟩ := b.put s' a' n' c'
  exact ⟨W, h1, h2, fun _ _ _ _ _ hg h => h3 hg h, h4, fun _ e hg => h5 e hg⟩
theorem IntAt.nil (w : World) (k : Nat) : IntAt w k false none 0 0 0 := IntAt.zero.mono (by omega)

/-- Two integers and no error, as one value. -/
def IsT (k k' : Nat) (q r : Int) : Value → World → Prop := fun x w => ∃ s a n c s' a' n' c', x = .tuple #[.agg #[.bool s, .slice a n c], .agg #[.bool s', .slice a' n' c'], .int .i64 0] ∧ IntAt w k s a n c q ∧ IntAt w k' s' a' n' c' r
theorem IsT.stb (k k' : Nat) (q r : Int) : Stb (IsT k k' q r) := fun _ _ _ e ⟨s, a, n, c, s', a', n', c', h1, h2, h3⟩ => ⟨s, a, n, c, s', a', n', c', h1, h2.ext e, h3.ext e⟩
/-- The boxes that Bezout begins with. -/
structure Bz0 (w : World) (s1 s2 : Bool) (a1 a2 : Option Addr) (n1 n2 c1 c2 : Nat) (W : World) : Prop where
  b2 : Bx W w.heap.size s1 a1 n1 c1
  b3 : Bx W (w.heap.size + 1) s2 a2 n2 c2
  b4 : Bx W (w.heap.size + 1 + 1) false none 0 0
  b5 : Bx W (w.heap.size + 1 + 1 + 1) false none 0 0
  b6 : Bx W (w.heap.size + 1 + 1 + 1 + 1) false none 0 0
  e : Ext w W
theorem Bz0.ext {w W W' : World} {s1 s2 : Bool} {a1 a2 : Option Addr} {n1 n2 c1 c2 : Nat} (h : Bz0 w s1 s2 a1 a2 n1 n2 c1 c2 W) (e : Ext W W') : Bz0 w s1 s2 a1 a2 n1 n2 c1 c2 W' :=
  ⟨h.b2.ext e, h.b3.ext e, h.b4.ext e, h.b5.ext e, h.b6.ext e, h.e.trans e⟩
theorem Bz0.pt {w W W' : World} {s1 s2 : Bool} {a1 a2 : Option Addr} {n1 n2 c1 c2 g : Nat} (h : Bz0 w s1 s2 a1 a2 n1 n2 c1 c2 W) (p : Pt g W W') (hg : w.heap.size + 4 < g) : Bz0 w s1 s2 a1 a2 n1 n2 c1 c2 W' :=
  ⟨h.b2.pt p (by omega), h.b3.pt p (by omega), h.b4.pt p (by omega), h.b5.pt p (by omega), h.b6.pt p (by omega), h.e.pt p (by omega)⟩
theorem Bz0.of {w W : World} {s1 s2 : Bool} {a1 a2 : Option Addr} {n1 n2 c1 c2 : Nat}
    (K0 : Kq w W [(w.heap.size + 4, [.bool false, .slice none 0 0]), (w.heap.size + 3, [.bool false, .slice none 0 0]), (w.heap.size + 2, [.bool false, .slice none 0 0]), (w.heap.size + 1, [.bool s2, .slice a2 n2 c2]), (w.heap.size, [.bool s1, .slice a1 n1 c1])]) : Bz0 w s1 s2 a1 a2 n1 n2 c1 c2 W :=
  ⟨K0.bx w.heap.size s1 a1 n1 c1 (by simp), K0.bx (w.heap.size + 1) s2 a2 n2 c2 (by simp), K0.bx (w.heap.size + 2) false none 0 0 (by simp), K0.bx (w.heap.size + 3) false none 0 0 (by simp), K0.bx (w.heap.size + 4) false none 0 0 (by simp), K0.ext⟩
end Go.Proofs.YtcgdkfadcglekaaGreatDoor
namespace Go.Proofs.YtcgdkfadcglekaaGreatDoor
end Go.Proofs.YtcgdkfadcglekaaGreatDoor
namespace Go.Proofs.YtcgdkfadcglekaaGreatDoor
open Go Go.RowKit

end Go.Proofs.YtcgdkfadcglekaaGreatDoor
namespace Go.Proofs.YtcgdkfadcglekaaGreatDoor
open Go Go.RowKit

theorem Or_c (w : World) (g : Nat) (v : Int) (h0 : w.cell? ⟨g, 0, none⟩ = some (.int .i64 v)) (h1 : w.cell? ⟨g, 1, none⟩ = some (.int .i64 1)) :
    Calls Tryz.prog 102 #[.slice (some ⟨g, 0, none⟩) 2 2] w (RSame w (.int .i64 (if v = 0 then 1 else v))) := by
  obtain ⟨r, hr⟩ : ∃ r, r = (if v = 0 then 1 else v) := ⟨_, rfl⟩
  rw [← hr]
  have Hr := hid hr
  clear hr
  go_enter Tryz.func102, Tryz.ntmps102
  go_wp2_with fail
  go_loop [8] (fun i => ∃ k : Nat, i = .int .i64 k ∧ k ≤ 1 ∧ (k = 1 → v = 0)) (fun i => 2 - (intOf i).toNat)
  case atStart => exact ⟨0, rfl, by omega, by omega⟩
  case round =>
    obtain ⟨k, rfl, hk, hv⟩ := hrel
    rcases Nat.eq_zero_or_pos k with hk0 | hk0
    · subst hk0
      by_cases hv0 : v = 0
      · subst hv0
        go_wp2_with fail
        case roundEnd => exact ⟨⟨1, rfl, by omega, fun _ => trivial⟩, by simp [intOf]⟩
      · have hb : (v == 0) = false := by simpa using hv0
        go_wp2_with fail
        exact bodyPost_ret (v := .int .i64 v) (by simp [results, Tryz.results102, go_sem]) rfl ⟨by rw [Hr.out, if_neg hv0], rfl⟩
    · obtain rfl : k = 1 := by omega
      have hv0 := hv rfl
      subst hv0
      go_wp2_with fail
      exact bodyPost_ret (v := .int .i64 1) (by simp [results, Tryz.results102, go_sem]) rfl ⟨by rw [Hr.out]; simp, rfl⟩
end Go.Proofs.YtcgdkfadcglekaaGreatDoor
