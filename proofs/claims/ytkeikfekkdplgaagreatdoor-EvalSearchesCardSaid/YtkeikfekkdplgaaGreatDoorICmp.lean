/-
 The arithmetic of Bezout's loop. No condition. Boxes of integers that are written one after another. No condition.
 Integers of package integer: Bezout. Every two integers of at most 2^26 words. Integers of package integer: power. Every integer and every exponent whose power has at most 2^27 words. cmp.Or of two ints, the second of which is 1. No condition.
 Integers of package integer: Cmp. Every two integers of at most 2^28 words. Integers of package integer: Pow. Every integer of at most 2^28 words, every int as an exponent.
-/
import Derived.Test.YtkeikfekkdplgaaGreatDoorDivMod
namespace Go.Proofs.YtkeikfekkdplgaaGreatDoor
open Go Go.RowKit

end Go.Proofs.YtkeikfekkdplgaaGreatDoor
namespace Go.Proofs.YtkeikfekkdplgaaGreatDoor
open Go Go.RowKit

/-- The box g has been written, nothing else that was there. -/
def Pt (g : Nat) (w w' : World) : Prop :=
 (∀ g2 s a n c, g2 ≠ g → Bx w g2 s a n c → Bx w' g2 s a n c) ∧ Gr w w' ∧ (∀ w0 : World, Ext w0 w → w0.heap.size ≤ g → Ext w0 w')
theorem Bx.pt {g g2 n c : Nat} {s : Bool} {a : Option Addr} {w w' : World} (h : Bx w g2 s a n c) (p : Pt g w w') (hg : g2 ≠ g) : Bx w' g2 s a n c := p.1 _ _ _ _ _ hg h
theorem Ext.pt {w0 w w' : World} {g : Nat} (e : Ext w0 w) (p : Pt g w w') (hg : w0.heap.size ≤ g) : Ext w0 w' := p.2.2 _ e hg
theorem Bx.put' {w : World} {g n c : Nat} {s : Bool} {a : Option Addr} (b : Bx w g s a n c) (s' : Bool) (a' : Option Addr) (n' c' : Nat) :
  ∃ W, W = (w.setCell ⟨g, 0, none⟩ (.bool s')).setCell ⟨g, 1, none⟩ (.slice a' n' c') ∧ Bx W g s' a' n' c' ∧ Pt g w W := by
 obtain ⟨W, h1, h2, h3, h4, h5⟩ := b.put s' a' n' c'
 exact ⟨W, h1, h2, fun _ _ _ _ _ hg h => h3 hg h, h4, fun _ e hg => h5 e hg⟩
theorem IntAt.nil (w : World) (k : Nat) : IntAt w k false none 0 0 0 := IntAt.zero.mono (by omega)

end Go.Proofs.YtkeikfekkdplgaaGreatDoor
namespace Go.Proofs.YtkeikfekkdplgaaGreatDoor
end Go.Proofs.YtkeikfekkdplgaaGreatDoor
namespace Go.Proofs.YtkeikfekkdplgaaGreatDoor
open Go Go.RowKit

end Go.Proofs.YtkeikfekkdplgaaGreatDoor
namespace Go.Proofs.YtkeikfekkdplgaaGreatDoor
open Go Go.RowKit

theorem Or_c (w : World) (g : Nat) (v : Int) (h0 : w.cell? ⟨g, 0, none⟩ = some (.int .i64 v)) (h1 : w.cell? ⟨g, 1, none⟩ = some (.int .i64 1)) :
  Calls Tryz.prog 196 #[.slice (some ⟨g, 0, none⟩) 2 2] w (RSame w (.int .i64 (if v = 0 then 1 else v))) := by
 obtain ⟨r, hr⟩ : ∃ r, r = (if v = 0 then 1 else v) := ⟨_, rfl⟩
 rw [← hr]
 have Hr := hid hr
 clear hr
 go_enter Tryz.func196, Tryz.ntmps196
 go_wp2_with fail
 go_loop [8] (fun i => ∃ k : Nat, i = .int .i64 k ∧ k ≤ 1 ∧ (k = 1 → v = 0)) (fun i => 2 - (intOf i).toNat)
 case atStart => exact ⟨0, rfl, by omega, by omega⟩
 case round =>
  obtain ⟨k, rfl, hk, hv⟩ := hrel
  rcases Nat.eq_zero_or_pos k with hk0 | hk0
  ·subst hk0
   by_cases hv0 : v = 0
   ·subst hv0
    go_wp2_with fail
    case roundEnd => exact ⟨⟨1, rfl, by omega, fun _ => trivial⟩, by simp [intOf]⟩
   ·have hb : (v == 0) = false := by simpa using hv0
    go_wp2_with fail
    exact bodyPost_ret (v := .int .i64 v) (by simp [results, Tryz.results196, go_sem]) rfl ⟨by rw [Hr.out, if_neg hv0], rfl⟩
  ·obtain rfl : k = 1 := by omega
   have hv0 := hv rfl
   subst hv0
   go_wp2_with fail
   exact bodyPost_ret (v := .int .i64 1) (by simp [results, Tryz.results196, go_sem]) rfl ⟨by rw [Hr.out]; simp, rfl⟩
end Go.Proofs.YtkeikfekkdplgaaGreatDoor
namespace Go.Proofs.YtkeikfekkdplgaaGreatDoor
open Go Go.RowKit

theorem kq20 (w : World) (s1 s2 : Bool) (a1 a2 : Option Addr) (n1 n2 c1 c2 : Nat) :
  ∃ W, W = (w.alloc (.cells #[.bool s1, .slice a1 n1 c1] 28)).alloc (.cells #[.bool s2, .slice a2 n2 c2] 28) ∧
   Kq w W [(w.heap.size + 1, [.bool s2, .slice a2 n2 c2]), (w.heap.size, [.bool s1, .slice a1 n1 c1])] := by
 refine ⟨_, rfl, ?_⟩
 have := ((Kq.start w).alloc [.bool s1, .slice a1 n1 c1] 28).alloc [.bool s2, .slice a2 n2 c2] 28
 simpa using this

/-- A new row of two ints. -/
def IsR2 (w0 : World) (x y : Int) : Value → World → Prop := fun u w => ∃ g, u = .slice (some ⟨g, 0, none⟩) 2 2 ∧ w0.heap.size ≤ g ∧ g < w.heap.size ∧ w.cell? ⟨g, 0, none⟩ = some (.int .i64 x) ∧ w.cell? ⟨g, 1, none⟩ = some (.int .i64 y)
theorem IsR2.stb (w0 : World) (x y : Int) : Stb (IsR2 w0 x y) := fun _ _ _ e ⟨g, h1, h2, h3, h4, h5⟩ => ⟨g, h1, h2, Nat.lt_of_lt_of_le h3 e.size, e.cell h4, e.cell h5⟩

theorem cmp_signs (s1 s2 : Bool) (m1 m2 : Nat) (z1 z2 : Int) (h1 : z1 = if s1 then -(m1 : Int) else m1) (h2 : z2 = if s2 then -(m2 : Int) else m2)
  (t1 : m1 = 0 → s1 = false) (t2 : m2 = 0 → s2 = false) : (s1 ≠ s2 → cmpI z1.sign z2.sign = cmpI z1 z2) ∧ (s1 = s2 → cmpI m1 m2 * (if z1.sign = 0 then 1 else z1.sign) = cmpI z1 z2) := by
 have key : ∀ z : Int, (z < 0 ∧ z.sign = -1) ∨ (z = 0 ∧ z.sign = 0) ∨ (0 < z ∧ z.sign = 1) := fun z => by
  rcases Int.lt_trichotomy z 0 with h | h | h
  ·exact .inl ⟨h, Int.sign_eq_neg_one_of_neg h⟩
  ·exact .inr (.inl ⟨h, by rw [h]; rfl⟩)
  ·exact .inr (.inr ⟨h, Int.sign_eq_one_of_pos h⟩)
 have k1 := key z1
 have k2 := key z2
 generalize z1.sign = p at *
 generalize z2.sign = q at *
 constructor
 ·intro hs
  simp only [cmpI]
  cases s1 <;> cases s2 <;> simp at hs h1 h2 t1 t2 <;> (repeat' split) <;> omega
 ·intro hs
  subst hs
  simp only [cmpI]
  cases s1 <;> simp at h1 h2 t1 t2 <;> (repeat' split) <;> omega

theorem Cmp_c (w : World) (s1 s2 : Bool) (a1 a2 : Option Addr) (n1 n2 c1 c2 k1 k2 : Nat) (z1 z2 : Int) (h1 : IntAt w k1 s1 a1 n1 c1 z1) (h2 : IntAt w k2 s2 a2 n2 c2 z2) (l1 : k1 ≤ 268435456) (_l2 : k2 ≤ 268435456) : Calls Tryz.prog 150 #[.agg #[.bool s1, .slice a1 n1 c1], .agg #[.bool s2, .slice a2 n2 c2]] w (RVal w (.int .i64 (cmpI z1 z2))) := by
 obtain ⟨W, hW, K0⟩ := kq20 w s1 s2 a1 a2 n1 n2 c1 c2
 have b2 := hid (K0.bx w.heap.size s1 a1 n1 c1 (by simp))
 have b3 := hid (K0.bx (w.heap.size + 1) s2 a2 n2 c2 (by simp))
 have E := hid K0.ext
 obtain ⟨m1, g1, t1, e1⟩ := id h1
 obtain ⟨m2, g2, t2, e2⟩ := id h2
 have HS := hid (cmp_signs s1 s2 m1 m2 z1 z2 e1 e2 (fun h => t1 (g1.zero.1 h)) (fun h => t2 (g2.zero.1 h)))
 have h1 := h1.ext K0.ext
 have h2 := h2.ext K0.ext
 have g1 := g1.ext K0.ext
 have g2 := g2.ext K0.ext
 obtain ⟨r, hr⟩ : ∃ r, r = cmpI z1 z2 := ⟨_, rfl⟩
 rw [← hr]
 have Hr := hid hr
 clear K0 e1 e2 t1 t2 hr
 by_cases hs : s1 = s2
 ·subst hs
  go_enter Tryz.func150, Tryz.ntmps150
  go_wp2_with fail
  rw [← hW]
  clear hW
  have F1 := b2.out.c0; have F2 := b2.out.c1; have F3 := b2.out.f0; have F4 := b2.out.f1
  have G1 := b3.out.c0; have G2 := b3.out.c1; have G3 := b3.out.f0; have G4 := b3.out.f1
  go_wp2_with fail
  clear F1 F2 F3 F4 G1 G2 G3 G4
  obtain ⟨c, hc⟩ : ∃ c, c = cmpI m1 m2 := ⟨_, rfl⟩
  obtain ⟨o, ho⟩ : ∃ o, o = (if z1.sign = 0 then 1 else z1.sign) := ⟨_, rfl⟩
  have Hc := hid hc
  have Ho := hid ho
  have Hw := hid (show IntKind.i64.wrap (c * o) = r by
   have h := HS.out.2 (by simp)
   rw [← hc, ← ho, ← Hr.out] at h
   rw [h, Hr.out, cmpI]
   repeat' split
   all_goals decide)
  clear hc ho
  refine wp_region_rg 11 [some 15, some 16, some 17, some 18, some 19, some 20, some 21, some 22, some 23, some 24, some 4] [IsV (.pointer (some ⟨w.heap.size, 1, none⟩)), IsV (.slice a1 n1 c1), IsV (.pointer (some ⟨w.heap.size + 1, 1, none⟩)), IsV (.slice a2 n2 c2), IsV (.int .i64 c), IsV (.agg #[.bool s1, .slice a1 n1 c1]), IsV (.int .i64 z1.sign), IsR2 W z1.sign 1, IsV (.int .i64 o), IsV (.int .i64 r), IsV (.int .i64 r)] [] 0 (by kernel_rfl) (by decide) (by kernel_rfl) (by kernel_rfl) (by kernel_rfl) (by kernel_rfl) (by kernel_rfl) ?_ (fun _ h => by cases h) ?_ ?_
  ·repeat' (first | exact trivial | exact IsV.stb _ | exact IsR2.stb _ _ _ | apply And.intro)
  ·refine RgAll.cons (by { intro v w' hE hd; simp only [layL, Act.put, uAx, u0x, u1x, Nat.reduceAdd]; skip; skip; intro K hK; go_simp; exact hK.out _ _ (Ext.refl _) rfl (FreshIf.no rfl) }) ?_
   refine RgAll.cons (by { intro v w' hE hd; simp only [layL, Act.put, uAx, u0x, u1x, Nat.reduceAdd]; have d0 : v 0 = .pointer (some ⟨w.heap.size, 1, none⟩) := hd 0 (by kernel_rfl); have L0 := Bx.c0 (b2.out.ext hE); have L1 := Bx.c1 (b2.out.ext hE); rw [d0]; intro K hK; go_simp; exact hK.out _ _ (Ext.refl _) rfl (FreshIf.no rfl) }) ?_
   refine RgAll.cons (by { intro v w' hE hd; simp only [layL, Act.put, uAx, u0x, u1x, Nat.reduceAdd]; skip; skip; intro K hK; go_simp; exact hK.out _ _ (Ext.refl _) rfl (FreshIf.no rfl) }) ?_
   refine RgAll.cons (by { intro v w' hE hd; simp only [layL, Act.put, uAx, u0x, u1x, Nat.reduceAdd]; have d0 : v 2 = .pointer (some ⟨w.heap.size + 1, 1, none⟩) := hd 2 (by kernel_rfl); have L0 := Bx.c0 (b3.out.ext hE); have L1 := Bx.c1 (b3.out.ext hE); rw [d0]; intro K hK; go_simp; exact hK.out _ _ (Ext.refl _) rfl (FreshIf.no rfl) }) ?_
   refine RgAll.cons (by { intro v w' hE hd; simp only [layL, Act.put, uAx, u0x, u1x, Nat.reduceAdd]; have d0 : v 1 = .slice a1 n1 c1 := hd 1 (by kernel_rfl); have d1 : v 3 = .slice a2 n2 c2 := hd 3 (by kernel_rfl); rw [d0, d1]; intro K hK; go_simp; go_at_call 192; go_split_ands; (with_reducible refine Calls.mono ((by have hh := cmp_c w' a1 a2 n1 n2 c1 c2 k1 k2 m1 m2 (g1.ext hE) (g2.ext hE) (by omega); rw [← Hc.out] at hh; exact hh)) ?_); rintro e w2 ⟨rfl, e2⟩; exact hK.out _ _ e2 rfl (FreshIf.no rfl) }) ?_
   refine RgAll.cons (by { intro v w' hE hd; simp only [layL, Act.put, uAx, u0x, u1x, Nat.reduceAdd]; have L0 := Bx.c0 (b2.out.ext hE); have L1 := Bx.c1 (b2.out.ext hE); skip; intro K hK; go_simp; exact hK.out _ _ (Ext.refl _) rfl (FreshIf.no rfl) }) ?_
   refine RgAll.cons (by { intro v w' hE hd; simp only [layL, Act.put, uAx, u0x, u1x, Nat.reduceAdd]; have d0 : v 5 = .agg #[.bool s1, .slice a1 n1 c1] := hd 5 (by kernel_rfl); rw [d0]; intro K hK; go_simp; go_at_call 127; go_split_ands; (with_reducible refine Calls.mono (Sign_c _ s1 a1 n1 c1 k1 z1 (h1.ext hE)) ?_); rintro e w2 ⟨rfl, e2⟩; exact hK.out _ _ e2 rfl (FreshIf.no rfl) }) ?_
   refine RgAll.cons (by { intro v w' hE hd; simp only [layL, Act.put, uAx, u0x, u1x, Nat.reduceAdd]; have d0 : v 6 = .int .i64 z1.sign := hd 6 (by kernel_rfl); rw [d0]; intro K hK; go_simp; exact hK.out _ _ ((Ext.refl _).alloc _) ⟨_, rfl, hE.size, by simp, by simp, by simp⟩ (FreshIf.no rfl) }) ?_
   refine RgAll.cons (by { intro v w' hE hd; simp only [layL, Act.put, uAx, u0x, u1x, Nat.reduceAdd]; have d0 : IsR2 W z1.sign 1 (v 7) w' := hd 7 (by kernel_rfl); obtain ⟨g, d0, _, _, x0, x1⟩ := d0; rw [d0]; intro K hK; go_simp; go_at_call 196; go_split_ands; (with_reducible refine Calls.mono ((by have hh := Or_c w' g z1.sign x0 x1; rw [← Ho.out] at hh; exact hh)) ?_); rintro e w2 ⟨rfl, rfl⟩; exact hK.out _ _ (Ext.refl _) rfl (FreshIf.no rfl) }) ?_
   refine RgAll.cons (by { intro v w' hE hd; simp only [layL, Act.put, uAx, u0x, u1x, Nat.reduceAdd]; have d0 : v 4 = .int .i64 c := hd 4 (by kernel_rfl); have d1 : v 8 = .int .i64 o := hd 8 (by kernel_rfl); have hw := Hw.out; rw [d0, d1]; intro K hK; go_simp; exact hK.out _ _ (Ext.refl _) rfl (FreshIf.no rfl) }) ?_
   refine RgAll.cons (by { intro v w' hE hd; simp only [layL, Act.put, uAx, u0x, u1x, Nat.reduceAdd]; have d0 : v 9 = .int .i64 r := hd 9 (by kernel_rfl); rw [d0]; intro K hK; go_simp; exact hK.out _ _ (Ext.refl _) rfl (FreshIf.no rfl) }) ?_
   exact RgAll.nil
  intro v w1 e1 hΦ _
  have v5 : v 10 = .int .i64 r := hΦ 10 (by decide)
  simp only [layL, Act.put, uAx, u0x, u1x, Nat.reduceAdd]
  rw [v5]
  refine wpAny_done (by kernel_rfl) ?_ 0
  go_wp2_with fail
  exact bodyPost_ret (v := .int .i64 r) (by simp [results, Tryz.results150, go_sem]) rfl ⟨rfl, E.out.trans e1⟩
 ·have hb : (s1 == s2) = false := by simpa using hs
  go_enter Tryz.func150, Tryz.ntmps150
  go_wp2_with fail
  rw [← hW]
  clear hW
  have F1 := b2.out.c0; have F2 := b2.out.c1; have F3 := b2.out.f0; have F4 := b2.out.f1
  have G1 := b3.out.c0; have G2 := b3.out.c1; have G3 := b3.out.f0; have G4 := b3.out.f1
  go_wp2_with fail
  clear F1 F2 F3 F4 G1 G2 G3 G4 hb
  refine wp_region_rg 6 [some 10, some 11, some 12, some 13, some 14, some 4] [IsV (.agg #[.bool s1, .slice a1 n1 c1]), IsV (.int .i64 z1.sign), IsV (.agg #[.bool s2, .slice a2 n2 c2]), IsV (.int .i64 z2.sign), IsV (.int .i64 (cmpI z1.sign z2.sign)), IsV (.int .i64 (cmpI z1.sign z2.sign))] [] 0 (by kernel_rfl) (by decide) (by kernel_rfl) (by kernel_rfl) (by kernel_rfl) (by kernel_rfl) (by kernel_rfl) ?_ (fun _ h => by cases h) ?_ ?_
  ·repeat' (first | exact trivial | exact IsV.stb _ | exact IsI.stb _ _ | exact IsB.stb _ | apply And.intro)
  ·refine RgAll.cons (by { intro v w' hE hd; simp only [layL, Act.put, uAx, u0x, u1x, Nat.reduceAdd]; have L0 := Bx.c0 (b2.out.ext hE); have L1 := Bx.c1 (b2.out.ext hE); skip; intro K hK; go_simp; exact hK.out _ _ (Ext.refl _) rfl (FreshIf.no rfl) }) ?_
   refine RgAll.cons (by { intro v w' hE hd; simp only [layL, Act.put, uAx, u0x, u1x, Nat.reduceAdd]; have d0 : v 0 = .agg #[.bool s1, .slice a1 n1 c1] := hd 0 (by kernel_rfl); rw [d0]; intro K hK; go_simp; go_at_call 127; go_split_ands; (with_reducible refine Calls.mono (Sign_c _ s1 a1 n1 c1 k1 z1 (h1.ext hE)) ?_); rintro e w2 ⟨rfl, e2⟩; exact hK.out _ _ e2 rfl (FreshIf.no rfl) }) ?_
   refine RgAll.cons (by { intro v w' hE hd; simp only [layL, Act.put, uAx, u0x, u1x, Nat.reduceAdd]; have L0 := Bx.c0 (b3.out.ext hE); have L1 := Bx.c1 (b3.out.ext hE); skip; intro K hK; go_simp; exact hK.out _ _ (Ext.refl _) rfl (FreshIf.no rfl) }) ?_
   refine RgAll.cons (by { intro v w' hE hd; simp only [layL, Act.put, uAx, u0x, u1x, Nat.reduceAdd]; have d0 : v 2 = .agg #[.bool s2, .slice a2 n2 c2] := hd 2 (by kernel_rfl); rw [d0]; intro K hK; go_simp; go_at_call 127; go_split_ands; (with_reducible refine Calls.mono (Sign_c _ s2 a2 n2 c2 k2 z2 (h2.ext hE)) ?_); rintro e w2 ⟨rfl, e2⟩; exact hK.out _ _ e2 rfl (FreshIf.no rfl) }) ?_
   refine RgAll.cons (by { intro v w' hE hd; simp only [layL, Act.put, uAx, u0x, u1x, Nat.reduceAdd]; have d0 : v 1 = .int .i64 z1.sign := hd 1 (by kernel_rfl); have d1 : v 3 = .int .i64 z2.sign := hd 3 (by kernel_rfl); rw [d0, d1]; intro K hK; go_simp; go_at_call 195; go_split_ands; (with_reducible refine Calls.mono (compare_int_c _ _ _) ?_); rintro e w2 ⟨rfl, rfl⟩; exact hK.out _ _ (Ext.refl _) rfl (FreshIf.no rfl) }) ?_
   refine RgAll.cons (by { intro v w' hE hd; simp only [layL, Act.put, uAx, u0x, u1x, Nat.reduceAdd]; have d0 : v 4 = .int .i64 (cmpI z1.sign z2.sign) := hd 4 (by kernel_rfl); rw [d0]; intro K hK; go_simp; exact hK.out _ _ (Ext.refl _) rfl (FreshIf.no rfl) }) ?_
   exact RgAll.nil
  intro v w1 e1 hΦ _
  have v5 : v 5 = .int .i64 (cmpI z1.sign z2.sign) := hΦ 5 (by decide)
  simp only [layL, Act.put, uAx, u0x, u1x, Nat.reduceAdd]
  rw [v5]
  refine wpAny_done (by kernel_rfl) ?_ 0
  go_wp2_with fail
  exact bodyPost_ret (v := .int .i64 (cmpI z1.sign z2.sign)) (by simp [results, Tryz.results150, go_sem]) rfl ⟨by rw [Hr.out, HS.out.1 hs], E.out.trans e1⟩
end Go.Proofs.YtkeikfekkdplgaaGreatDoor
namespace Go.Proofs.YtkeikfekkdplgaaGreatDoor
open Go Go.RowKit

end Go.Proofs.YtkeikfekkdplgaaGreatDoor
