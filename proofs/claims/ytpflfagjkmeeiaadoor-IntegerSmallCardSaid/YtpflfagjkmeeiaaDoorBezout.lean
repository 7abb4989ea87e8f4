/-
  Integers of package integer: Bezout. Every two integers of at most 2^26 words. Integers of package integer: power. Every integer and every exponent whose power has at most 2^27 words. cmp.Or of two ints, the second of which is 1. No condition.
-/
import Derived.Test.YtpflfagjkmeeiaaDoorBoxes
namespace Go.Proofs.YtpflfagjkmeeiaaDoor
open Go Go.RowKit

set_option maxRecDepth 100000 in
theorem Bezout_0 (w : World) (s1 s2 : Bool) (a1 a2 : Option Addr) (n1 c1 c2 k1 : Nat) (z1 : Int) (h1 : IntAt w k1 s1 a1 n1 c1 z1) :
    Calls Tryd.prog 18 #[.agg #[.bool s1, .slice a1 n1 c1], .agg #[.bool s2, .slice a2 0 c2]] w (RI3 w k1 2 0 z1.natAbs z1.sign 0) := by
  obtain ⟨W, hW, K0⟩ := kq23 w s1 s2 a1 a2 n1 0 c1 c2
  have b2 := hid (K0.bx w.heap.size s1 a1 n1 c1 (by simp))
  have b3 := K0.bx (w.heap.size + 1) s2 a2 0 c2 (by simp)
  have b4 : Bx W (w.heap.size + 1 + 1) false none 0 0 := K0.bx (w.heap.size + 2) false none 0 0 (by simp)
  have b5 : Bx W (w.heap.size + 1 + 1 + 1) false none 0 0 := K0.bx (w.heap.size + 3) false none 0 0 (by simp)
  have b6 : Bx W (w.heap.size + 1 + 1 + 1 + 1) false none 0 0 := K0.bx (w.heap.size + 4) false none 0 0 (by simp)
  have E := hid K0.ext
  clear K0
  go_enter Tryd.func18, Tryd.ntmps18
  go_wp2_with fail
  rw [← hW]
  clear hW
  have F1 := b3.c0; have F2 := b3.c1; have F3 := b3.f0; have F4 := b3.f1
  go_wp2_with fail
  clear F1 F2 F3 F4
  have h1 := h1.ext E.out
  have e0 : Ext W W.drew := (Ext.refl W).drew
  refine wp_region_any (by kernel_rfl) ?_; change wpAny _ _ _ _ _ _ _ (World.drew _); refine wpAny_take' 5 (some 29) (.agg #[.bool false, .slice none 0 0]) rfl (by rfl) (by kernel_rfl) (by kernel_rfl) (by kernel_rfl) (fun _ _ _ h => h) (Or.inl ⟨by rfl, by intro w; go_simp⟩) ?_; simp only [Act.put, List.setIfInBounds_toArray, List.set_cons_zero, List.set_cons_succ]
  refine wpAny_rgT 6 [5] [some 24, some 25, some 26, some 27, some 28, some 29] [IsV (.agg #[.bool s1, .slice a1 n1 c1]), IsI k1 (z1.natAbs : Int), IsV (.agg #[.bool s1, .slice a1 n1 c1]), IsV (.int .i64 z1.sign), IsI 2 z1.sign, IsV (.agg #[.bool false, .slice none 0 0])] [] 3 (by kernel_rfl) (by decide) (by kernel_rfl) (by kernel_rfl) (by kernel_rfl) (by kernel_rfl) (by kernel_rfl) ?_ (fun _ h => by cases h) (by kernel_rfl) ?_ ?_ ?_
  · repeat' (first | exact trivial | exact IsV.stb _ | exact IsI.stb _ _ | exact IsB.stb _ | apply And.intro)
  · intro i hi; simp only [List.mem_cons, List.not_mem_nil, or_false] at hi; subst hi; exact rfl
  · refine RgAll.cons (by { intro v w' hE hd; simp only [layL, Act.put, List.setIfInBounds_toArray, List.set_cons_zero, List.set_cons_succ, Nat.reduceAdd]; have hE := e0.trans hE; have L0 := Bx.c0 (b2.out.ext hE); have L1 := Bx.c1 (b2.out.ext hE); skip; intro K hK; go_simp; exact hK.out _ _ (Ext.refl _) rfl (FreshIf.no rfl) }) ?_
    refine RgAll.cons (by { intro v w' hE hd; simp only [layL, Act.put, List.setIfInBounds_toArray, List.set_cons_zero, List.set_cons_succ, Nat.reduceAdd]; have d0 : v 0 = .agg #[.bool s1, .slice a1 n1 c1] := hd 0 (by kernel_rfl); rw [d0]; intro K hK; go_simp; go_at_call 17; go_split_ands; (with_reducible refine Calls.mono (Abs_c _ s1 a1 n1 c1 k1 z1 (h1.ext (e0.trans hE))) ?_); rintro e w2 ⟨s9, a9, n9, c9, rfl, e2, h9⟩; exact hK.out _ _ e2 ⟨_, _, _, _, rfl, h9⟩ (FreshIf.no rfl) }) ?_
    refine RgAll.cons (by { intro v w' hE hd; simp only [layL, Act.put, List.setIfInBounds_toArray, List.set_cons_zero, List.set_cons_succ, Nat.reduceAdd]; have hE := e0.trans hE; have L0 := Bx.c0 (b2.out.ext hE); have L1 := Bx.c1 (b2.out.ext hE); skip; intro K hK; go_simp; exact hK.out _ _ (Ext.refl _) rfl (FreshIf.no rfl) }) ?_
    refine RgAll.cons (by { intro v w' hE hd; simp only [layL, Act.put, List.setIfInBounds_toArray, List.set_cons_zero, List.set_cons_succ, Nat.reduceAdd]; have d0 : v 2 = .agg #[.bool s1, .slice a1 n1 c1] := hd 2 (by kernel_rfl); rw [d0]; intro K hK; go_simp; go_at_call 15; go_split_ands; (with_reducible refine Calls.mono (Sign_c _ s1 a1 n1 c1 k1 z1 (h1.ext (e0.trans hE))) ?_); rintro e w2 ⟨rfl, e2⟩; exact hK.out _ _ e2 rfl (FreshIf.no rfl) }) ?_
    refine RgAll.cons (by { intro v w' hE hd; simp only [layL, Act.put, List.setIfInBounds_toArray, List.set_cons_zero, List.set_cons_succ, Nat.reduceAdd]; have d0 : v 3 = .int .i64 z1.sign := hd 3 (by kernel_rfl); rw [d0]; intro K hK; go_simp; go_at_call 23; go_split_ands; (with_reducible refine Calls.mono (Of_c _ z1.sign (sign_lo z1) (sign_hi z1)) ?_); rintro e w2 ⟨s9, a9, n9, c9, rfl, e2, h9⟩; exact hK.out _ _ e2 ⟨_, _, _, _, rfl, h9⟩ (FreshIf.no rfl) }) ?_
    refine RgAll.cons (by { intro v w' hE hd; simp only [layL, Act.put, List.setIfInBounds_toArray, List.set_cons_zero, List.set_cons_succ, Nat.reduceAdd]; skip; skip; intro K hK; go_simp; exact hK.out _ _ (Ext.refl _) rfl (FreshIf.no rfl) }) ?_
    exact RgAll.nil
  intro v w1 e1 hΦ _
  have e1 := e0.trans e1
  have d1 : IsI k1 (z1.natAbs : Int) (v 1) w1 := hΦ 1 (by decide)
  have d4 : IsI 2 z1.sign (v 4) w1 := hΦ 4 (by decide)
  have v5 : v 5 = .agg #[.bool false, .slice none 0 0] := hΦ 5 (by decide)
  obtain ⟨s3, a3, n3, c3, v1, h3⟩ := d1
  obtain ⟨s4, a4, n4, c4, v4, h4⟩ := d4
  have b4 := b4.ext e1
  have b5 := b5.ext e1
  have b6 := b6.ext e1
  have E := E.out.trans e1
  simp only [layL, Act.put, List.setIfInBounds_toArray, List.set_cons_zero, List.set_cons_succ, Nat.reduceAdd]
  rw [v1, v4, v5]
  clear v1 v4 v5 hΦ
  have F1 := b4.c0; have F2 := b4.c1; have F3 := b4.f0; have F4 := b4.f1
  refine wpAny_ready (rs := [6]) (by kernel_rfl) (by simp) (AllReady.cons rfl (fun K hK => ?_) AllReady.nil); go_simp; refine hK _ _ ?_; clear hK K
  clear F1 F2 F3 F4
  obtain ⟨w2, hW, b4, p⟩ := b4.put' s3 a3 n3 c3
  rw [← hW]; clear hW
  have b5 := b5.pt p (by omega)
  have b6 := b6.pt p (by omega)
  have E := E.pt p (by omega)
  have h3 := h3.pt p
  have h4 := h4.pt p
  clear p
  have F1 := b5.c0; have F2 := b5.c1; have F3 := b5.f0; have F4 := b5.f1
  refine wpAny_ready (rs := [7]) (by kernel_rfl) (by simp) (AllReady.cons rfl (fun K hK => ?_) AllReady.nil); go_simp; refine hK _ _ ?_; clear hK K
  clear F1 F2 F3 F4
  obtain ⟨w3, hW, b5, p⟩ := b5.put' s4 a4 n4 c4
  rw [← hW]; clear hW
  have b4 := b4.pt p (by omega)
  have b6 := b6.pt p (by omega)
  have E := E.pt p (by omega)
  have h3 := h3.pt p
  have h4 := h4.pt p
  clear p
  have F1 := b6.c0; have F2 := b6.c1; have F3 := b6.f0; have F4 := b6.f1
  refine wpAny_ready (rs := [8]) (by kernel_rfl) (by simp) (AllReady.cons rfl (fun K hK => ?_) AllReady.nil); go_simp; refine hK _ _ ?_; clear hK K
  clear F1 F2 F3 F4
  obtain ⟨w4, hW, b6, p⟩ := b6.put' false none 0 0
  rw [← hW]; clear hW
  have b4 := b4.pt p (by omega)
  have b5 := b5.pt p (by omega)
  have E := E.pt p (by omega)
  have h3 := h3.pt p
  have h4 := h4.pt p
  refine wpAny_done (by kernel_rfl) ?_ _
  go_wp2_with fail
  have T0 := b4.c0; have T1 := b4.c1; have T2 := b5.c0; have T3 := b5.c1; have T4 := b6.c0; have T5 := b6.c1
  refine bodyPost_ret (v := .tuple #[.agg #[.bool s3, .slice a3 n3 c3], .agg #[.bool s4, .slice a4 n4 c4], .agg #[.bool false, .slice none 0 0]]) (by simp [results, Tryd.results18, go_sem, T0, T1, T2, T3, T4, T5]) rfl ⟨_, _, _, _, _, _, _, _, _, _, _, _, rfl, E, h3, h4, IntAt.nil _ _⟩

/-- What Bezout's loop keeps. -/
structure BzL (w : World) (s1 s2 : Bool) (a1 a2 : Option Addr) (n1 n2 c1 c2 k2 : Nat) (z1 z2 : Int) (g g7 g8 g9 g10 : Nat) (x y u t : Int)
    (sx sy su sd : Bool) (ax ay au ad : Option Addr) (nx ny nu nd cx cy cu cd : Nat) (W : World) : Prop where
  Z : Bz0 w s1 s2 a1 a2 n1 n2 c1 c2 W
  b7 : Bx W g7 sx ax nx cx
  b8 : Bx W g8 sy ay ny cy
  b9 : Bx W g9 su au nu cu
  b10 : Bx W g10 sd ad nd cd
  hx : IntAt W k2 sx ax nx cx x
  hy : IntAt W k2 sy ay ny cy y
  hu : IntAt W k2 su au nu cu u
  ht : IntAt W k2 sd ad nd cd t
  m : BzM z1 z2 g x y u t

def BzI (w : World) (s1 s2 : Bool) (a1 a2 : Option Addr) (n1 n2 c1 c2 k2 : Nat) (z1 z2 : Int) (g g7 g8 g9 g10 gk : Nat) (W : World) : Prop :=
  ∃ x y u t sx sy su sd ax ay au ad nx ny nu nd cx cy cu cd, Int.natAbs y = gk ∧ BzL w s1 s2 a1 a2 n1 n2 c1 c2 k2 z1 z2 g g7 g8 g9 g10 x y u t sx sy su sd ax ay au ad nx ny nu nd cx cy cu cd W
set_option maxRecDepth 100000 in
set_option maxHeartbeats 1000000 in
theorem Bezout_c (w : World) (s1 s2 : Bool) (a1 a2 : Option Addr) (n1 n2 c1 c2 k1 k2 : Nat) (z1 z2 : Int) (h1 : IntAt w k1 s1 a1 n1 c1 z1) (h2 : IntAt w k2 s2 a2 n2 c2 z2) (l1 : k1 ≤ 33554432) (l2 : k2 ≤ 33554432) (hz2 : z2 ≠ 0) :
    Calls Tryd.prog 18 #[.agg #[.bool s1, .slice a1 n1 c1], .agg #[.bool s2, .slice a2 n2 c2]] w (fun e w' => ∃ u v : Int, RI3 w k2 k2 (k2 + k1 + 1) (Int.gcd z1 z2 : Nat) u v e w' ∧ (Int.gcd z1 z2 : Int) = u * z1 + v * z2 ∧ 0 ≤ u ∧ u < (z2 / (Int.gcd z1 z2 : Int)).natAbs) := by
  have hn2 : n2 ≠ 0 := fun h => hz2 (h2.zero_iff.2 h)
  have hn2' : ((n2 : Int) == 0) = false := by rw [beq_eq_false_iff_ne]; omega
  obtain ⟨W, hW, K0⟩ := kq23 w s1 s2 a1 a2 n1 n2 c1 c2
  have Z := hid (Bz0.of K0)
  have M0 := hid (BzM.start z1 z2 hz2)
  obtain ⟨g, hg⟩ : ∃ g, g = Int.gcd z1 z2 := ⟨_, rfl⟩
  have hs1 := h1.size
  have hs2 := h2.size
  have I1 := hid h1
  have I2 := hid h2
  have Hs2 := hid hs2
  rw [← hg] at M0 ⊢
  have Hg := hid hg
  clear h1 h2 K0 hs1 hs2 hg
  go_enter Tryd.func18, Tryd.ntmps18
  go_wp2_with fail
  rw [← hW]
  clear hW
  have F1 := Z.out.b3.c0; have F2 := Z.out.b3.c1; have F3 := Z.out.b3.f0; have F4 := Z.out.b3.f1
  go_wp2_with fail
  clear F1 F2 F3 F4 hn2'
  refine wp_region_rg 7 [some 30, some 31, some 32, some 33, some 34, some 7, some 8] [IsV (.agg #[.bool s2, .slice a2 n2 c2]), IsI k2 (z2.natAbs : Int), IsV (.agg #[.bool s1, .slice a1 n1 c1]), IsV (.agg #[.bool s2, .slice a2 n2 c2]), IsI k2 (z1 % z2), IsB W, IsB W] [5, 6] 2 (by kernel_rfl) (by decide) (by kernel_rfl) (by kernel_rfl) (by kernel_rfl) (by kernel_rfl) (by kernel_rfl) ?_ ?_ ?_ ?_
  · repeat' (first | exact trivial | exact IsV.stb _ | exact IsI.stb _ _ | exact IsB.stb _ | apply And.intro)
  · intro i hi; simp only [List.mem_cons, List.not_mem_nil, or_false] at hi; rcases hi with rfl | rfl <;> exact IsB.box _
  · refine RgAll.cons (by { intro v w' hE hd; simp only [layL, Act.put, List.setIfInBounds_toArray, List.set_cons_zero, List.set_cons_succ, Nat.reduceAdd]; have L0 := Bx.c0 (Z.out.b3.ext hE); have L1 := Bx.c1 (Z.out.b3.ext hE); skip; intro K hK; go_simp; exact hK.out _ _ (Ext.refl _) rfl (FreshIf.no rfl) }) ?_
    refine RgAll.cons (by { intro v w' hE hd; simp only [layL, Act.put, List.setIfInBounds_toArray, List.set_cons_zero, List.set_cons_succ, Nat.reduceAdd]; have d0 : v 0 = .agg #[.bool s2, .slice a2 n2 c2] := hd 0 (by kernel_rfl); rw [d0]; intro K hK; go_simp; go_at_call 17; go_split_ands; (with_reducible refine Calls.mono (Abs_c _ s2 a2 n2 c2 k2 z2 (I2.out.ext (Z.out.e.trans hE))) ?_); rintro e w2 ⟨s9, a9, n9, c9, rfl, e2, h9⟩; exact hK.out _ _ e2 ⟨_, _, _, _, rfl, h9⟩ (FreshIf.no rfl) }) ?_
    refine RgAll.cons (by { intro v w' hE hd; simp only [layL, Act.put, List.setIfInBounds_toArray, List.set_cons_zero, List.set_cons_succ, Nat.reduceAdd]; have L0 := Bx.c0 (Z.out.b2.ext hE); have L1 := Bx.c1 (Z.out.b2.ext hE); skip; intro K hK; go_simp; exact hK.out _ _ (Ext.refl _) rfl (FreshIf.no rfl) }) ?_
    refine RgAll.cons (by { intro v w' hE hd; simp only [layL, Act.put, List.setIfInBounds_toArray, List.set_cons_zero, List.set_cons_succ, Nat.reduceAdd]; have L0 := Bx.c0 (Z.out.b3.ext hE); have L1 := Bx.c1 (Z.out.b3.ext hE); skip; intro K hK; go_simp; exact hK.out _ _ (Ext.refl _) rfl (FreshIf.no rfl) }) ?_
    refine RgAll.cons (by { intro v w' hE hd; simp only [layL, Act.put, List.setIfInBounds_toArray, List.set_cons_zero, List.set_cons_succ, Nat.reduceAdd]; have d0 : v 2 = .agg #[.bool s1, .slice a1 n1 c1] := hd 2 (by kernel_rfl); have d1 : v 3 = .agg #[.bool s2, .slice a2 n2 c2] := hd 3 (by kernel_rfl); rw [d0, d1]; intro K hK; go_simp; go_at_call 45; go_split_ands; (with_reducible refine Calls.mono (mod_c _ s1 s2 a1 a2 n1 n2 c1 c2 k1 k2 z1 z2 (I1.out.ext (Z.out.e.trans hE)) (I2.out.ext (Z.out.e.trans hE)) (by omega) (by omega) hz2) ?_); rintro e w2 ⟨s9, a9, n9, c9, rfl, e2, h9⟩; exact hK.out _ _ e2 ⟨_, _, _, _, rfl, h9⟩ (FreshIf.no rfl) }) ?_
    refine RgAll.cons (by { intro v w' hE hd; simp only [layL, Act.put, List.setIfInBounds_toArray, List.set_cons_zero, List.set_cons_succ, Nat.reduceAdd]; intro K hK; go_simp; refine hK.out _ _ ((Ext.refl _).alloc _) ⟨_, rfl, hE.size, Bx.new _ _ _ _ _⟩ FreshIf.yes }) ?_
    refine RgAll.cons (by { intro v w' hE hd; simp only [layL, Act.put, List.setIfInBounds_toArray, List.set_cons_zero, List.set_cons_succ, Nat.reduceAdd]; intro K hK; go_simp; refine hK.out _ _ ((Ext.refl _).alloc _) ⟨_, rfl, hE.size, Bx.new _ _ _ _ _⟩ FreshIf.yes }) ?_
    exact RgAll.nil
  intro v w1 e1 hΦ hne
  have d1 : IsI k2 (z2.natAbs : Int) (v 1) w1 := hΦ 1 (by decide)
  have d4 : IsI k2 (z1 % z2) (v 4) w1 := hΦ 4 (by decide)
  have d5 : IsB W (v 5) w1 := hΦ 5 (by decide)
  have d6 : IsB W (v 6) w1 := hΦ 6 (by decide)
  have hne := hne 5 6 (by decide) (by decide) (by decide) (by decide) (by decide)
  obtain ⟨sx, ax, nx, cx, v1, hx⟩ := d1
  obtain ⟨sy, ay, ny, cy, v4, hy⟩ := d4
  obtain ⟨g7, v5, hg7, b7⟩ := d5
  obtain ⟨g8, v6, hg8, b8⟩ := d6
  rw [v5, v6] at hne
  have hne : g8 ≠ g7 := fun h => hne (by rw [h])
  have l0 : w.heap.size + 4 < W.heap.size := Z.out.b6.lt
  have Z := hid (Z.out.ext e1)
  simp only [layL, Act.put, List.setIfInBounds_toArray, List.set_cons_zero, List.set_cons_succ, Nat.reduceAdd]
  rw [v1, v4, v5, v6]
  clear v1 v4 v5 v6 hΦ
  have F1 := b7.c0; have F2 := b7.c1; have F3 := b7.f0; have F4 := b7.f1
  refine wpAny_ready (rs := [7]) (by kernel_rfl) (by simp) (AllReady.cons rfl (fun K hK => ?_) AllReady.nil); go_simp; refine hK _ _ ?_; clear hK K
  clear F1 F2 F3 F4
  obtain ⟨w2, hW, b7, p⟩ := b7.put' sx ax nx cx
  rw [← hW]; clear hW
  have b8 := b8.pt p hne
  have Z := hid (Z.out.pt p (by omega))
  have hx := hx.pt p
  have hy := hy.pt p
  clear p
  have F1 := b8.c0; have F2 := b8.c1; have F3 := b8.f0; have F4 := b8.f1
  refine wpAny_ready (rs := [8]) (by kernel_rfl) (by simp) (AllReady.cons rfl (fun K hK => ?_) AllReady.nil); go_simp; refine hK _ _ ?_; clear hK K
  clear F1 F2 F3 F4
  obtain ⟨w3, hW, b8, p⟩ := b8.put' sy ay ny cy
  rw [← hW]; clear hW
  have b7 := b7.pt p (Ne.symm hne)
  have Z := hid (Z.out.pt p (by omega))
  have hx := hx.pt p
  have hy := hy.pt p
  clear p
  refine wpAny_done (by kernel_rfl) ?_ _
  go_wp2_with fail
  obtain ⟨w4, hW, b9, e4⟩ := bx1 w3 false none 0 0
  rw [← hW]; clear hW
  refine Calls.mono (Of_c w4 1 (by decide) (by decide)) ?_
  rintro e w5 ⟨sd, ad, nd, cd, rfl, e5, ht⟩
  obtain ⟨g9, hg9⟩ : ∃ g9, g9 = w3.heap.size := ⟨_, rfl⟩
  rw [← hg9] at b9
  rw [← hg9]
  have Hg9 := hid hg9
  clear hg9
  go_wp2_with fail
  obtain ⟨w6, hW, b10, e6⟩ := bx1 w5 sd ad nd cd
  rw [← hW]; clear hW
  obtain ⟨g10, hg10⟩ : ∃ g10, g10 = w5.heap.size := ⟨_, rfl⟩
  rw [← hg10] at b10
  rw [← hg10]
  have l7 : g7 < g9 := by have := b7.lt; have := Hg9.out; omega
  have l8 : g8 < g9 := by have := b8.lt; have := Hg9.out; omega
  have l9 : g9 < g10 := by have := (b9.ext e5).lt; omega
  have kt : 1 ≤ k2 := by
    rcases Nat.eq_zero_or_pos k2 with h | h
    · subst h; have := Hs2.out; simp at this; omega
    · exact h
  have L0 := hid (show BzL w s1 s2 a1 a2 n1 n2 c1 c2 k2 z1 z2 g g7 g8 g9 g10 ((z2.natAbs : Nat) : Int) (z1 % z2) 0 1 sx sy false sd ax ay none ad nx ny 0 nd cx cy 0 cd w6 from ⟨((Z.out.ext e4).ext e5).ext e6, ((b7.ext e4).ext e5).ext e6, ((b8.ext e4).ext e5).ext e6, (b9.ext e5).ext e6, b10, ((hx.ext e4).ext e5).ext e6, ((hy.ext e4).ext e5).ext e6, IntAt.nil _ _, (ht.tight (by simpa using Nat.one_lt_pow (by omega) (by decide))).ext e6, M0.out⟩)
  clear Z b7 b8 b9 b10 hx hy ht M0 e4 e5 e6 Hg9 hg10 e1
  go_loopg [] (z1 % z2).natAbs (fun gk wr => Hid (BzI w s1 s2 a1 a2 n1 n2 c1 c2 k2 z1 z2 g g7 g8 g9 g10 gk wr))
  case atStart => exact ⟨_, _, _, _, _, _, _, _, _, _, _, _, _, _, _, _, _, _, _, _, rfl, L0.out⟩
  case round =>
    clear L0
    obtain ⟨x, y, u, t, sx, sy, su, sd, ax, ay, au, ad, nx, ny, nu, nd, cx, cy, cu, cd, hgk, L'⟩ := hrel.out
    clear hrel
    have L := hid L'
    clear L'
    have hz := L.out.hy.zero_iff
    by_cases hB : ny = 0
    · subst hB
      have hy0 : y = 0 := hz.2 rfl
      subst hy0
      have hx0 : x ≠ 0 := by have := L.out.m.x0; omega
      have H := hid (L.out.m.fin hz2 Hg.out)
      have hu0 := hid (And.intro (Int.emod_nonneg u H.out.2.1) (Int.emod_lt u H.out.2.1))
      have hv := hid (by have h1 := Int.emod_add_mul_ediv (x - u % (z2 / x) * z1) z2; rw [H.out.2.2] at h1; exact h1)
      have hn0 := H.out.2.1
      have F1 := L.out.b8.c0; have F2 := L.out.b8.c1; have F3 := L.out.b8.f0; have F4 := L.out.b8.f1
      have G1 := L.out.b7.c0; have G2 := L.out.b7.c1; have G3 := L.out.b7.f0; have G4 := L.out.b7.f1
      have H1 := L.out.Z.b3.c0; have H2 := L.out.Z.b3.c1; have H3 := L.out.Z.b3.f0; have H4 := L.out.Z.b3.f1
      go_wp2_with fail
      refine Calls.mono (DivMod_c wr s2 sx a2 ax n2 nx c2 cx k2 k2 z2 x (I2.out.ext L.out.Z.e) L.out.hx (by omega) (by omega) hx0) ?_
      rintro e w1 ⟨s3, a3, n3, c3, s4, a4, n4, c4, rfl, e1, h3, h4⟩
      clear F1 F2 F3 F4 G1 G2 G3 G4 H1 H2 H3 H4 hz h4
      go_upto_region 11 with (fail)
      obtain ⟨w2, hW, b14, b15, e2⟩ := bx2 w1 s3 s4 a3 a4 n3 n4 c3 c4
      rw [← hW]; clear hW b15
      have l14 := (L.out.b10.ext e1).lt
      obtain ⟨g14, hg14⟩ : ∃ g14, g14 = w1.heap.size := ⟨_, rfl⟩
      rw [← hg14] at b14 l14
      rw [← hg14]
      clear hg14
      have e12 := e1.trans e2
      have Z := hid (L.out.Z.ext e12)
      have b7 := L.out.b7.ext e12
      have b9 := L.out.b9.ext e12
      have hx := L.out.hx.ext e12
      have hu := L.out.hu.ext e12
      have h3 := h3.ext e2
      clear L e12 e1 e2
      have F1 := b9.c0; have F2 := b9.c1; have F3 := b9.f0; have F4 := b9.f1
      have G1 := b14.c0; have G2 := b14.c1; have G3 := b14.f0; have G4 := b14.f1
      go_wp2_with fail
      refine Calls.mono (mod_c w2 su s3 au a3 nu n3 cu c3 k2 k2 u (z2 / x) hu h3 (by omega) (by omega) hn0) ?_
      rintro e w3 ⟨s4, a4, n4, c4, rfl, e1, h4⟩
      clear F1 F2 F3 F4 G1 G2 G3 G4 b14 h3 hu
      have Z := hid (Z.out.ext e1)
      have b7 := b7.ext e1
      have b9 := b9.ext e1
      have hx := hx.ext e1
      clear e1
      have F1 := b9.c0; have F2 := b9.c1; have F3 := b9.f0; have F4 := b9.f1
      go_wp2_with fail
      clear F1 F2 F3 F4
      obtain ⟨w4, hW, b9, p⟩ := b9.put' s4 a4 n4 c4
      rw [← hW]; clear hW
      have b7 := b7.pt p (by omega)
      have Z := hid (Z.out.pt p (by omega))
      have hx := hx.pt p
      have h4 := h4.pt p
      clear p
      obtain ⟨u', hu'⟩ : ∃ u', u' = u % (z2 / x) := ⟨_, rfl⟩
      rw [← hu'] at h4 hv hu0
      obtain ⟨vq, hvq⟩ : ∃ q, q = (x - u' * z1) / z2 := ⟨_, rfl⟩
      obtain ⟨vr, hvr⟩ : ∃ r, r = (x - u' * z1) % z2 := ⟨_, rfl⟩
      rw [← hvq] at hv
      have Hq := hid hvq
      have Hr := hid hvr
      have Hu := hid hu'
      clear hvq hvr hu'
      refine wp_region_noPanic ?_
      refine wp_region_any (by kernel_rfl) ?_
      have e5 : Ext w4 w4.drew := (Ext.refl w4).drew
      change wpAny _ _ _ _ _ _ _ (World.drew _)
      refine wpAny_rgO 13 [] [9, 10] [some 66, some 67, some 68, some 69, some 70, some 71, some 72, some 65, some 73, some 74, some 75, some 17, some 18]
        [IsV (.agg #[.bool sx, .slice ax nx cx]), IsV (.agg #[.bool s4, .slice a4 n4 c4]), IsV (.agg #[.bool s1, .slice a1 n1 c1]), IsI (k2 + k1) (u' * z1), IsI (k2 + k1 + 1) (x - u' * z1), IsV (.agg #[.bool s2, .slice a2 n2 c2]),
         IsT (k2 + k1 + 1) k2 vq vr, IsT (k2 + k1 + 1) k2 vq vr, IsI (k2 + k1 + 1) vq, IsI k2 vr, IsV (.int .i64 0), IsB w4.drew, IsB w4.drew] [11, 12] 3
        (by kernel_rfl) (by decide) (by kernel_rfl) (by kernel_rfl) (by kernel_rfl) (by kernel_rfl) (by kernel_rfl) ?_ ?_ (by kernel_rfl) (by intro i hi; cases hi) ?_ ?_ ?_
      · repeat' (first | exact trivial | exact IsV.stb _ | exact IsI.stb _ _ | exact IsB.stb _ | exact IsT.stb _ _ _ _ | apply And.intro)
      · intro i hi; simp only [List.mem_cons, List.not_mem_nil, or_false] at hi; rcases hi with rfl | rfl <;> exact IsB.box _
      · intro i hi
        simp only [List.mem_cons, List.not_mem_nil, or_false] at hi
        rcases hi with rfl | rfl
        · refine ⟨rfl, fun _ _ _ _ _ h => h, fun v w' hE hd => ?_⟩
          have d0 : IsT (k2 + k1 + 1) k2 vq vr (v 7) w' := hd 7 (by kernel_rfl)
          obtain ⟨s5, a5, n5, c5, s6, a6, n6, c6, d0, h5, h6⟩ := d0
          refine ⟨_, _, rfl, Or.inl ⟨by rfl, ?_⟩, ⟨s6, a6, n6, c6, rfl, h6⟩⟩
          intro w9
          simp only [layL, Act.put, List.setIfInBounds_toArray, List.set_cons_zero, List.set_cons_succ, Nat.reduceAdd]
          rw [d0]
          go_simp
        · refine ⟨rfl, fun _ _ _ _ _ h => h, fun v w' hE hd => ?_⟩
          have d0 : IsT (k2 + k1 + 1) k2 vq vr (v 7) w' := hd 7 (by kernel_rfl)
          obtain ⟨s5, a5, n5, c5, s6, a6, n6, c6, d0, h5, h6⟩ := d0
          refine ⟨_, _, rfl, Or.inl ⟨by rfl, ?_⟩, (rfl : (Value.int .i64 0) = _)⟩
          intro w9
          simp only [layL, Act.put, List.setIfInBounds_toArray, List.set_cons_zero, List.set_cons_succ, Nat.reduceAdd]
          rw [d0]
          go_simp
      · refine RgAll.cons (by { intro v w' hE hd; simp only [layL, Act.put, List.setIfInBounds_toArray, List.set_cons_zero, List.set_cons_succ, Nat.reduceAdd]; have hE := e5.trans hE; have L0 := Bx.c0 (b7.ext hE); have L1 := Bx.c1 (b7.ext hE); skip; intro K hK; go_simp; exact hK.out _ _ (Ext.refl _) rfl (FreshIf.no rfl) }) ?_
        refine RgAll.cons (by { intro v w' hE hd; simp only [layL, Act.put, List.setIfInBounds_toArray, List.set_cons_zero, List.set_cons_succ, Nat.reduceAdd]; have hE := e5.trans hE; have L0 := Bx.c0 (b9.ext hE); have L1 := Bx.c1 (b9.ext hE); skip; intro K hK; go_simp; exact hK.out _ _ (Ext.refl _) rfl (FreshIf.no rfl) }) ?_
        refine RgAll.cons (by { intro v w' hE hd; simp only [layL, Act.put, List.setIfInBounds_toArray, List.set_cons_zero, List.set_cons_succ, Nat.reduceAdd]; have hE := e5.trans hE; have L0 := Bx.c0 (Z.out.b2.ext hE); have L1 := Bx.c1 (Z.out.b2.ext hE); skip; intro K hK; go_simp; exact hK.out _ _ (Ext.refl _) rfl (FreshIf.no rfl) }) ?_
        refine RgAll.cons (by { intro v w' hE hd; simp only [layL, Act.put, List.setIfInBounds_toArray, List.set_cons_zero, List.set_cons_succ, Nat.reduceAdd]; have d0 : v 1 = .agg #[.bool s4, .slice a4 n4 c4] := hd 1 (by kernel_rfl); have d1 : v 2 = .agg #[.bool s1, .slice a1 n1 c1] := hd 2 (by kernel_rfl); rw [d0, d1]; intro K hK; go_simp; go_at_call 13; go_split_ands; (with_reducible refine Calls.mono (Mul_c _ s4 s1 a4 a1 n4 n1 c4 c1 k2 k1 u' z1 (h4.ext (e5.trans hE)) (I1.out.ext (Z.out.e.trans (e5.trans hE))) (by omega) (by omega)) ?_); rintro e w2 ⟨s9, a9, n9, c9, rfl, e2, h9⟩; exact hK.out _ _ e2 ⟨_, _, _, _, rfl, h9⟩ (FreshIf.no rfl) }) ?_
        refine RgAll.cons (by { intro v w' hE hd; simp only [layL, Act.put, List.setIfInBounds_toArray, List.set_cons_zero, List.set_cons_succ, Nat.reduceAdd]; have d0 : v 0 = .agg #[.bool sx, .slice ax nx cx] := hd 0 (by kernel_rfl); have d1 : IsI (k2 + k1) (u' * z1) (v 3) w' := hd 3 (by kernel_rfl); obtain ⟨s6, a6, n6, c6, d1, h6⟩ := d1; rw [d0, d1]; intro K hK; go_simp; go_at_call 22; go_split_ands; (with_reducible refine Calls.mono ((by have hh := Sub_c w' sx s6 ax a6 nx n6 cx c6 k2 (k2 + k1) x (u' * z1) (hx.ext (e5.trans hE)) h6 (by omega) (by omega); rw [Nat.max_eq_right (Nat.le_add_right k2 k1)] at hh; exact hh)) ?_); rintro e w2 ⟨s9, a9, n9, c9, rfl, e2, h9⟩; exact hK.out _ _ e2 ⟨_, _, _, _, rfl, h9⟩ (FreshIf.no rfl) }) ?_
        refine RgAll.cons (by { intro v w' hE hd; simp only [layL, Act.put, List.setIfInBounds_toArray, List.set_cons_zero, List.set_cons_succ, Nat.reduceAdd]; have hE := e5.trans hE; have L0 := Bx.c0 (Z.out.b3.ext hE); have L1 := Bx.c1 (Z.out.b3.ext hE); skip; intro K hK; go_simp; exact hK.out _ _ (Ext.refl _) rfl (FreshIf.no rfl) }) ?_
        refine RgAll.cons (by { intro v w' hE hd; simp only [layL, Act.put, List.setIfInBounds_toArray, List.set_cons_zero, List.set_cons_succ, Nat.reduceAdd]; have d0 : IsI (k2 + k1 + 1) (x - u' * z1) (v 4) w' := hd 4 (by kernel_rfl); obtain ⟨s6, a6, n6, c6, d0, h6⟩ := d0; have d1 : v 5 = .agg #[.bool s2, .slice a2 n2 c2] := hd 5 (by kernel_rfl); rw [d0, d1]; intro K hK; go_simp; go_at_call 11; go_split_ands; (with_reducible refine Calls.mono ((by have hh := DivMod_c w' s6 s2 a6 a2 n6 n2 c6 c2 (k2 + k1 + 1) k2 (x - u' * z1) z2 h6 (I2.out.ext (Z.out.e.trans (e5.trans hE))) (by omega) (by omega) hz2; rw [← Hq.out, ← Hr.out] at hh; exact hh)) ?_); rintro e w2 ⟨s7, a7, n7, c7, s8, a8, n8, c8, rfl, e2, h7, h8⟩; exact hK.out _ _ e2 ⟨_, _, _, _, _, _, _, _, rfl, h7, h8⟩ (FreshIf.no rfl) }) ?_
        refine RgAll.cons (by { intro v w' hE hd; simp only [layL, Act.put, List.setIfInBounds_toArray, List.set_cons_zero, List.set_cons_succ, Nat.reduceAdd]; have d0 : IsT (k2 + k1 + 1) k2 vq vr (v 6) w' := hd 6 (by kernel_rfl); obtain ⟨s5, a5, n5, c5, s6, a6, n6, c6, d0, h5, h6⟩ := d0; rw [d0]; intro K hK; go_simp; exact hK.out _ _ (Ext.refl _) ⟨_, _, _, _, _, _, _, _, rfl, h5, h6⟩ (FreshIf.no rfl) }) ?_
        refine RgAll.cons (by { intro v w' hE hd; simp only [layL, Act.put, List.setIfInBounds_toArray, List.set_cons_zero, List.set_cons_succ, Nat.reduceAdd]; have d0 : IsT (k2 + k1 + 1) k2 vq vr (v 7) w' := hd 7 (by kernel_rfl); obtain ⟨s5, a5, n5, c5, s6, a6, n6, c6, d0, h5, h6⟩ := d0; rw [d0]; intro K hK; go_simp; exact hK.out _ _ (Ext.refl _) ⟨_, _, _, _, rfl, h5⟩ (FreshIf.no rfl) }) ?_
        refine RgAll.cons (by { intro v w' hE hd; simp only [layL, Act.put, List.setIfInBounds_toArray, List.set_cons_zero, List.set_cons_succ, Nat.reduceAdd]; have d0 : IsT (k2 + k1 + 1) k2 vq vr (v 7) w' := hd 7 (by kernel_rfl); obtain ⟨s5, a5, n5, c5, s6, a6, n6, c6, d0, h5, h6⟩ := d0; rw [d0]; intro K hK; go_simp; exact hK.out _ _ (Ext.refl _) ⟨_, _, _, _, rfl, h6⟩ (FreshIf.no rfl) }) ?_
        refine RgAll.cons (by { intro v w' hE hd; simp only [layL, Act.put, List.setIfInBounds_toArray, List.set_cons_zero, List.set_cons_succ, Nat.reduceAdd]; have d0 : IsT (k2 + k1 + 1) k2 vq vr (v 7) w' := hd 7 (by kernel_rfl); obtain ⟨s5, a5, n5, c5, s6, a6, n6, c6, d0, h5, h6⟩ := d0; rw [d0]; intro K hK; go_simp; exact hK.out _ _ (Ext.refl _) rfl (FreshIf.no rfl) }) ?_
        refine RgAll.cons (by { intro v w' hE hd; simp only [layL, Act.put, List.setIfInBounds_toArray, List.set_cons_zero, List.set_cons_succ, Nat.reduceAdd]; intro K hK; go_simp; refine hK.out _ _ ((Ext.refl _).alloc _) ⟨_, rfl, hE.size, Bx.new _ _ _ _ _⟩ FreshIf.yes }) ?_
        refine RgAll.cons (by { intro v w' hE hd; simp only [layL, Act.put, List.setIfInBounds_toArray, List.set_cons_zero, List.set_cons_succ, Nat.reduceAdd]; intro K hK; go_simp; refine hK.out _ _ ((Ext.refl _).alloc _) ⟨_, rfl, hE.size, Bx.new _ _ _ _ _⟩ FreshIf.yes }) ?_
        exact RgAll.nil
      · intro v w5 e6 hΦ hne5
        have d8 : IsI (k2 + k1 + 1) vq (v 8) w5 := hΦ 8 (by decide)
        have d9 : IsI k2 vr (v 9) w5 := hΦ 9 (by decide)
        have v10 : v 10 = .int .i64 0 := hΦ 10 (by decide)
        have d11 : IsB w4.drew (v 11) w5 := hΦ 11 (by decide)
        have d12 : IsB w4.drew (v 12) w5 := hΦ 12 (by decide)
        have hne5 := hne5 11 12 (by decide) (by decide) (by decide) (by decide) (by decide)
        obtain ⟨s5, a5, n5, c5, v8, h5⟩ := d8
        obtain ⟨s6, a6, n6, c6, v9, h6⟩ := d9
        obtain ⟨g17, v11, hg17, b17⟩ := d11
        obtain ⟨g18, v12, hg18, b18⟩ := d12
        rw [v11, v12] at hne5
        have hne5 : g18 ≠ g17 := fun h => hne5 (by rw [h])
        have l7' := (b7.ext e5).lt
        have l9' := (b9.ext e5).lt
        have l6' := (Z.out.b6.ext e5).lt
        have e7 := e5.trans e6
        have b7 := b7.ext e7
        have b9 := b9.ext e7
        have Z := hid (Z.out.ext e7)
        have hx := hx.ext e7
        have h4 := h4.ext e7
        simp only [layL, Act.put, List.setIfInBounds_toArray, List.set_cons_zero, List.set_cons_succ, Nat.reduceAdd]
        rw [v8, v9, v10, v11, v12]
        clear v8 v9 v10 v11 v12 hΦ e5 e6 e7
        have F1 := b17.c0; have F2 := b17.c1; have F3 := b17.f0; have F4 := b17.f1
        refine wpAny_ready (rs := [13]) (by kernel_rfl) (by simp) (AllReady.cons rfl (fun K hK => ?_) AllReady.nil); go_simp; refine hK _ _ ?_; clear hK K
        clear F1 F2 F3 F4
        obtain ⟨w6, hW, b17, p⟩ := b17.put' s5 a5 n5 c5
        rw [← hW]; clear hW
        have b18 := b18.pt p hne5
        have b7 := b7.pt p (by omega)
        have b9 := b9.pt p (by omega)
        have Z := hid (Z.out.pt p (by omega))
        have hx := hx.pt p
        have h4 := h4.pt p
        have h5 := h5.pt p
        have h6 := h6.pt p
        clear p
        have F1 := b18.c0; have F2 := b18.c1; have F3 := b18.f0; have F4 := b18.f1
        refine wpAny_ready (rs := [14]) (by kernel_rfl) (by simp) (AllReady.cons rfl (fun K hK => ?_) AllReady.nil); go_simp; refine hK _ _ ?_; clear hK K
        clear F1 F2 F3 F4
        obtain ⟨w7, hW, b18, p⟩ := b18.put' s6 a6 n6 c6
        rw [← hW]; clear hW
        have b17 := b17.pt p (Ne.symm hne5)
        have b7 := b7.pt p (by omega)
        have b9 := b9.pt p (by omega)
        have Z := hid (Z.out.pt p (by omega))
        have hx := hx.pt p
        have h4 := h4.pt p
        have h5 := h5.pt p
        clear p h6 b18
        refine wpAny_ready (rs := [15]) (by kernel_rfl) (by simp) (AllReady.cons rfl (fun K hK => ?_) AllReady.nil); go_simp; refine hK _ _ ?_; clear hK K
        refine wpAny_done (by kernel_rfl) (NoPanic.normal ?_) _
        go_wp2_with fail
        have b4 := Z.out.b4
        have b5 := Z.out.b5
        have b6 := Z.out.b6
        have E := Z.out.e
        clear Z
        have N0 : g7 ≠ w.heap.size + 1 + 1 := (by omega); have N1 : g7 ≠ w.heap.size + 1 + 1 + 1 := (by omega); have N2 : g7 ≠ w.heap.size + 1 + 1 + 1 + 1 := (by omega); have N3 : g9 ≠ w.heap.size + 1 + 1 := (by omega); have N4 : g9 ≠ w.heap.size + 1 + 1 + 1 := (by omega); have N5 : g9 ≠ w.heap.size + 1 + 1 + 1 + 1 := (by omega); have N6 : g17 ≠ w.heap.size + 1 + 1 := (by omega); have N7 : g17 ≠ w.heap.size + 1 + 1 + 1 := (by omega); have N8 : g17 ≠ w.heap.size + 1 + 1 + 1 + 1 := (by omega)
        have F1 := b7.c0; have F2 := b7.c1; have F3 := b7.f0; have F4 := b7.f1; have G1 := b9.c0; have G2 := b9.c1; have G3 := b9.f0; have G4 := b9.f1; have H1 := b17.c0; have H2 := b17.c1; have H3 := b17.f0; have H4 := b17.f1; have M1 := b4.c0; have M2 := b4.c1; have M3 := b4.f0; have M4 := b4.f1; have O1 := b5.c0; have O2 := b5.c1; have O3 := b5.f0; have O4 := b5.f1; have R1 := b6.c0; have R2 := b6.c1; have R3 := b6.f0; have R4 := b6.f1
        go_region
        all_goals (go_wp2_with fail)
        all_goals clear F1 F2 F3 F4 G1 G2 G3 G4 H1 H2 H3 H4 M1 M2 M3 M4 O1 O2 O3 O4 R1 R2 R3 R4
        all_goals (obtain ⟨X1, hW, b4, p⟩ := b4.put' sx ax nx cx; rw [← hW]; clear hW; have b5 := b5.pt p (by omega); have b6 := b6.pt p (by omega); have E := E.pt p (by omega); have hx := hx.pt p; have h4 := h4.pt p; have h5 := h5.pt p; clear p)
        all_goals (obtain ⟨X2, hW, b5, p⟩ := b5.put' s4 a4 n4 c4; rw [← hW]; clear hW; have b4 := b4.pt p (by omega); have b6 := b6.pt p (by omega); have E := E.pt p (by omega); have hx := hx.pt p; have h4 := h4.pt p; have h5 := h5.pt p; clear p)
        all_goals (obtain ⟨X3, hW, b6, p⟩ := b6.put' s5 a5 n5 c5; rw [← hW]; clear hW; have b4 := b4.pt p (by omega); have b5 := b5.pt p (by omega); have E := E.pt p (by omega); have hx := hx.pt p; have h4 := h4.pt p; have h5 := h5.pt p; clear p)
        all_goals (have T0 := b4.c0; have T1 := b4.c1; have T2 := b5.c0; have T3 := b5.c1; have T4 := b6.c0; have T5 := b6.c1)
        all_goals have eD : Ext X3 X3.drew := (Ext.refl X3).drew
        all_goals refine bodyPost_ret (v := .tuple #[.agg #[.bool sx, .slice ax nx cx], .agg #[.bool s4, .slice a4 n4 c4], .agg #[.bool s5, .slice a5 n5 c5]]) (by simp [results, Tryd.results18, go_sem, T0, T1, T2, T3, T4, T5]) rfl ⟨u', vq, ⟨_, _, _, _, _, _, _, _, _, _, _, _, rfl, E.trans eD, ?_, h4.ext eD, h5.ext eD⟩, ?_, hu0.out.1, ?_⟩
        · rw [← H.out.1]; exact hx.ext eD
        · have h1 := hv.out; rw [← H.out.1]; rw [Int.mul_comm vq z2]; omega
        · have h1 := hu0.out.2; rw [H.out.1] at h1; exact h1
    · have hBi : decide ((0 : Int) < (ny : Int)) = true := by simp; omega
      have hy0 : y ≠ 0 := fun h => hB (hz.1 h)
      have F1 := L.out.b8.c0; have F2 := L.out.b8.c1; have F3 := L.out.b8.f0; have F4 := L.out.b8.f1
      have G1 := L.out.b7.c0; have G2 := L.out.b7.c1; have G3 := L.out.b7.f0; have G4 := L.out.b7.f1
      go_wp2_with fail
      refine Calls.mono (DivMod_c wr sx sy ax ay nx ny cx cy k2 k2 x y L.out.hx L.out.hy (by omega) (by omega) hy0) ?_
      rintro e w1 ⟨s3, a3, n3, c3, s4, a4, n4, c4, rfl, e1, h3, h4⟩
      clear F1 F2 F3 F4 G1 G2 G3 G4 hBi hz
      generalize decide (0 < ny) = bb
      go_upto_region 8 with (fail)
      obtain ⟨w2, hW, b11, b12, e2⟩ := bx2 w1 s3 s4 a3 a4 n3 n4 c3 c4
      rw [← hW]; clear hW
      have l11 := (L.out.b10.ext e1).lt
      obtain ⟨g11, hg11⟩ : ∃ g11, g11 = w1.heap.size := ⟨_, rfl⟩
      rw [← hg11] at b11 b12 l11
      rw [← hg11]
      clear hg11
      have e12 := e1.trans e2
      have Z := hid (L.out.Z.ext e12)
      have b7 := L.out.b7.ext e12
      have b8 := L.out.b8.ext e12
      have b9 := L.out.b9.ext e12
      have b10 := L.out.b10.ext e12
      have hy := L.out.hy.ext e12
      have hu := L.out.hu.ext e12
      have ht := L.out.ht.ext e12
      have h3 := h3.ext e2
      have h4 := h4.ext e2
      have M := hid (L.out.m.step hy0)
      have bt := hid L.out.m.bt
      clear L e12 e1 e2 hB hy0
      have N1 : g7 ≠ g8 := Ne.symm hne
      have N2 : g7 ≠ g11 + 1 := by omega
      have N3 : g8 ≠ g11 + 1 := by omega
      have F1 := b7.c0; have F2 := b7.c1; have F3 := b7.f0; have F4 := b7.f1
      have G1 := b8.c0; have G2 := b8.c1; have G3 := b8.f0; have G4 := b8.f1
      have H1 := b12.c0; have H2 := b12.c1; have H3 := b12.f0; have H4 := b12.f1
      go_region
      clear F1 F2 F3 F4 G1 G2 G3 G4 H1 H2 H3 H4
      obtain ⟨w3, hW, b7, p⟩ := b7.put' sy ay ny cy
      rw [← hW]; clear hW
      have b8 := b8.pt p (Ne.symm N1)
      have b9 := b9.pt p (by omega)
      have b10 := b10.pt p (by omega)
      have b11 := b11.pt p (by omega)
      have Z := hid (Z.out.pt p (by omega))
      have hy := hy.pt p
      have hu := hu.pt p
      have ht := ht.pt p
      have h3 := h3.pt p
      have h4 := h4.pt p
      clear p
      obtain ⟨w4, hW, b8, p⟩ := b8.put' s4 a4 n4 c4
      rw [← hW]; clear hW
      have b7 := b7.pt p N1
      have b9 := b9.pt p (by omega)
      have b10 := b10.pt p (by omega)
      have b11 := b11.pt p (by omega)
      have Z := hid (Z.out.pt p (by omega))
      have hy := hy.pt p
      have hu := hu.pt p
      have ht := ht.pt p
      have h3 := h3.pt p
      have h4 := h4.pt p
      clear p
      have e5 : Ext w4 w4.drew := (Ext.refl w4).drew
      go_wp2_with fail
      refine wp_region_rg 6 [some 49, some 50, some 51, some 52, some 53, some 54] [IsV (.agg #[.bool sd, .slice ad nd cd]), IsV (.agg #[.bool su, .slice au nu cu]), IsV (.agg #[.bool s3, .slice a3 n3 c3]), IsV (.agg #[.bool sd, .slice ad nd cd]), IsI (k2 + k2) (x / y * t), IsI (max k2 (k2 + k2) + 1) (u - x / y * t)] [] 2 (by kernel_rfl) (by decide) (by kernel_rfl) (by kernel_rfl) (by kernel_rfl) (by kernel_rfl) (by kernel_rfl) ?_ (fun _ h => by cases h) ?_ ?_
      · repeat' (first | exact trivial | exact IsV.stb _ | exact IsI.stb _ _ | exact IsB.stb _ | apply And.intro)
      · refine RgAll.cons (by { intro v w' hE hd; simp only [layL, Act.put, List.setIfInBounds_toArray, List.set_cons_zero, List.set_cons_succ, Nat.reduceAdd]; have hE := e5.trans hE; have L0 := Bx.c0 (b10.ext hE); have L1 := Bx.c1 (b10.ext hE); skip; intro K hK; go_simp; exact hK.out _ _ (Ext.refl _) rfl (FreshIf.no rfl) }) ?_
        refine RgAll.cons (by { intro v w' hE hd; simp only [layL, Act.put, List.setIfInBounds_toArray, List.set_cons_zero, List.set_cons_succ, Nat.reduceAdd]; have hE := e5.trans hE; have L0 := Bx.c0 (b9.ext hE); have L1 := Bx.c1 (b9.ext hE); skip; intro K hK; go_simp; exact hK.out _ _ (Ext.refl _) rfl (FreshIf.no rfl) }) ?_
        refine RgAll.cons (by { intro v w' hE hd; simp only [layL, Act.put, List.setIfInBounds_toArray, List.set_cons_zero, List.set_cons_succ, Nat.reduceAdd]; have hE := e5.trans hE; have L0 := Bx.c0 (b11.ext hE); have L1 := Bx.c1 (b11.ext hE); skip; intro K hK; go_simp; exact hK.out _ _ (Ext.refl _) rfl (FreshIf.no rfl) }) ?_
        refine RgAll.cons (by { intro v w' hE hd; simp only [layL, Act.put, List.setIfInBounds_toArray, List.set_cons_zero, List.set_cons_succ, Nat.reduceAdd]; have hE := e5.trans hE; have L0 := Bx.c0 (b10.ext hE); have L1 := Bx.c1 (b10.ext hE); skip; intro K hK; go_simp; exact hK.out _ _ (Ext.refl _) rfl (FreshIf.no rfl) }) ?_
        refine RgAll.cons (by { intro v w' hE hd; simp only [layL, Act.put, List.setIfInBounds_toArray, List.set_cons_zero, List.set_cons_succ, Nat.reduceAdd]; have d0 : v 2 = .agg #[.bool s3, .slice a3 n3 c3] := hd 2 (by kernel_rfl); have d1 : v 3 = .agg #[.bool sd, .slice ad nd cd] := hd 3 (by kernel_rfl); rw [d0, d1]; intro K hK; go_simp; go_at_call 13; go_split_ands; (with_reducible refine Calls.mono (Mul_c _ s3 sd a3 ad n3 nd c3 cd k2 k2 (x / y) t (h3.ext (e5.trans hE)) (ht.ext (e5.trans hE)) (by omega) (by omega)) ?_); rintro e w2 ⟨s9, a9, n9, c9, rfl, e2, h9⟩; exact hK.out _ _ e2 ⟨_, _, _, _, rfl, h9⟩ (FreshIf.no rfl) }) ?_
        refine RgAll.cons (by { intro v w' hE hd; simp only [layL, Act.put, List.setIfInBounds_toArray, List.set_cons_zero, List.set_cons_succ, Nat.reduceAdd]; have d0 : v 1 = .agg #[.bool su, .slice au nu cu] := hd 1 (by kernel_rfl); have d1 : IsI (k2 + k2) (x / y * t) (v 4) w' := hd 4 (by kernel_rfl); obtain ⟨s6, a6, n6, c6, d1, h6⟩ := d1; rw [d0, d1]; intro K hK; go_simp; go_at_call 22; go_split_ands; (with_reducible refine Calls.mono (Sub_c _ su s6 au a6 nu n6 cu c6 k2 (k2 + k2) u (x / y * t) (hu.ext (e5.trans hE)) h6 (by omega) (by omega)) ?_); rintro e w2 ⟨s9, a9, n9, c9, rfl, e2, h9⟩; exact hK.out _ _ e2 ⟨_, _, _, _, rfl, h9⟩ (FreshIf.no rfl) }) ?_
        exact RgAll.nil
      intro v w5 e6 hΦ _
      have v0 : v 0 = .agg #[.bool sd, .slice ad nd cd] := hΦ 0 (by decide)
      have d5 : IsI (max k2 (k2 + k2) + 1) (u - x / y * t) (v 5) w5 := hΦ 5 (by decide)
      obtain ⟨s6, a6, n6, c6, v5, h6⟩ := d5
      have e7 := e5.trans e6
      have b7 := b7.ext e7
      have b8 := b8.ext e7
      have b9 := b9.ext e7
      have b10 := b10.ext e7
      have Z := hid (Z.out.ext e7)
      have hy := hy.ext e7
      have ht := ht.ext e7
      have h4 := h4.ext e7
      have h6 := h6.tight (k' := k2) (Nat.lt_of_le_of_lt M.out.bt Hs2.out)
      clear h3 hu b11 e5 e6 e7
      simp only [layL, Act.put, List.setIfInBounds_toArray, List.set_cons_zero, List.set_cons_succ, Nat.reduceAdd]
      rw [v0, v5]
      clear v0 v5 hΦ
      have F1 := b9.c0; have F2 := b9.c1; have F3 := b9.f0; have F4 := b9.f1
      refine wpAny_ready (rs := [6]) (by kernel_rfl) (by simp) (AllReady.cons rfl (fun K hK => ?_) AllReady.nil); go_simp; refine hK _ _ ?_; clear hK K
      clear F1 F2 F3 F4
      obtain ⟨w6, hW, b9, p⟩ := b9.put' sd ad nd cd
      rw [← hW]; clear hW
      have b7 := b7.pt p (by omega)
      have b8 := b8.pt p (by omega)
      have b10 := b10.pt p (by omega)
      have Z := hid (Z.out.pt p (by omega))
      have hy := hy.pt p
      have ht := ht.pt p
      have h4 := h4.pt p
      have h6 := h6.pt p
      clear p
      have F1 := b10.c0; have F2 := b10.c1; have F3 := b10.f0; have F4 := b10.f1
      refine wpAny_ready (rs := [7]) (by kernel_rfl) (by simp) (AllReady.cons rfl (fun K hK => ?_) AllReady.nil); go_simp; refine hK _ _ ?_; clear hK K
      clear F1 F2 F3 F4
      obtain ⟨w7, hW, b10, p⟩ := b10.put' s6 a6 n6 c6
      rw [← hW]; clear hW
      have b7 := b7.pt p (by omega)
      have b8 := b8.pt p (by omega)
      have b9 := b9.pt p (by omega)
      have Z := hid (Z.out.pt p (by omega))
      have hy := hy.pt p
      have ht := ht.pt p
      have h4 := h4.pt p
      have h6 := h6.pt p
      clear p
      have I' := hid (show BzI w s1 s2 a1 a2 n1 n2 c1 c2 k2 z1 z2 g g7 g8 g9 g10 (x % y).natAbs w7 from
        ⟨_, _, _, _, _, _, _, _, _, _, _, _, _, _, _, _, _, _, _, _, rfl, Z.out, b7, b8, b9, b10, hy, h4, ht, h6, M.out⟩)
      have hlt : (x % y).natAbs < gk := by
        have := M.out.x0
        have h1 := Int.emod_nonneg x (show y ≠ 0 by omega)
        have h2 := Int.emod_lt x (show y ≠ 0 by omega)
        omega
      clear Z b7 b8 b9 b10 hy h4 ht h6 M bt
      refine wpAny_done (by kernel_rfl) ?_ _
      go_wp2_with fail
      go_roundg (x % y).natAbs
      case measure => exact hlt
      case rel => exact I'
end Go.Proofs.YtpflfagjkmeeiaaDoor
namespace Go.Proofs.YtpflfagjkmeeiaaDoor
open Go Go.RowKit

/-- What the loop of power keeps: m and p are how often z is a factor of the two boxes' integers. -/
def PwI (w : World) (k n : Nat) (z : Int) (g5 r : Nat) (W : World) : Prop :=
  ∃ m p sb sa ab aa nb na cb ca, m + p * r = n ∧ (1 ≤ r → p ≤ n) ∧ Bx W w.heap.size sb ab nb cb ∧ Bx W (w.heap.size + 1) false none 0 0 ∧ Bx W g5 sa aa na ca ∧ IntAt W (k * p) sb ab nb cb (z ^ p) ∧ IntAt W (k * m + 1) sa aa na ca (z ^ m) ∧ Ext w W

theorem pw_even {m p j n : Nat} (h : m + p * (2 * j) = n) : m + (p + p) * j = n ∧ (1 ≤ j → p + p ≤ n) := by
  have h1 : p * (2 * j) = (p + p) * j := by grind
  rw [h1] at h
  exact ⟨h, fun hj => by have := Nat.le_mul_of_pos_right (p + p) hj; omega⟩
theorem pw_odd {m p j n : Nat} (h : m + p * (2 * j + 1) = n) : (m + p) + (p + p) * j = n ∧ (1 ≤ j → p + p ≤ n) := by
  have h1 : p * (2 * j + 1) = p + (p + p) * j := by grind
  rw [h1] at h
  exact ⟨by omega, fun hj => by have := Nat.le_mul_of_pos_right (p + p) hj; omega⟩
theorem ipow_one (z : Int) : z ^ 1 = z := by rw [show (1 : Nat) = 0 + 1 from rfl, Int.pow_succ, Int.pow_zero, Int.one_mul]

set_option maxRecDepth 100000 in
theorem power_c (w : World) (s1 : Bool) (a1 : Option Addr) (n1 c1 k1 : Nat) (z1 : Int) (h1 : IntAt w k1 s1 a1 n1 c1 z1) (n : Nat) (hn : k1 * n ≤ 134217728) (hn2 : n < 9223372036854775808) :
    Calls Tryd.prog 47 #[.agg #[.bool s1, .slice a1 n1 c1], .int .i64 n] w (RInt w (k1 * n + 1) (z1 ^ n)) := by
  obtain ⟨W, hW, K0⟩ := kq11 w s1 a1 n1 c1
  have b2 := hid (K0.bx w.heap.size s1 a1 n1 c1 (by simp))
  have b4 := hid (K0.bx (w.heap.size + 1) false none 0 0 (by simp))
  have E := hid K0.ext
  have hz := hid (h1.ext K0.ext)
  clear K0 h1
  go_enter Tryd.func47, Tryd.ntmps47
  go_wp2_with fail
  rw [← hW]
  clear hW
  refine Calls.mono (Of_c W 1 (by decide) (by decide)) ?_
  rintro e w1 ⟨sa, aa, na, ca, rfl, e1, ha⟩
  go_wp2_with fail
  obtain ⟨w2, hW, b5, e2⟩ := bx1 w1 sa aa na ca
  rw [← hW]; clear hW
  have l5 := (b4.out.ext e1).lt
  obtain ⟨g5, hg5⟩ : ∃ g5, g5 = w1.heap.size := ⟨_, rfl⟩
  rw [← hg5] at b5 l5
  rw [← hg5]
  clear hg5
  have e12 := e1.trans e2
  have I0 := hid (show PwI w k1 n z1 g5 n w2 from ⟨0, 1, _, _, _, _, _, _, _, _, by omega, by omega, b2.out.ext e12, b4.out.ext e12, b5, by rw [ipow_one, Nat.mul_one]; exact hz.out.ext e12, by simpa using (ha.tight (k' := 1) (by decide)).ext e2, E.out.trans e12⟩)
  clear b2 b4 E hz ha e1 e2 e12 b5
  go_loopg [1] n (fun r x wr => x = .int .i64 r ∧ r ≤ n ∧ Hid (PwI w k1 n z1 g5 r wr))
  case atStart => exact ⟨rfl, by omega, I0⟩
  case round =>
    clear I0
    obtain ⟨rfl, hrn, I⟩ := hrel
    obtain ⟨m, p, sb, sa, ab, aa, nb, na, cb, ca, hmp, hpn, H'⟩ := I.out
    clear I
    have H := hid H'
    clear H'
    rcases Nat.eq_zero_or_pos gk with h0 | h0
    · subst h0
      obtain rfl : m = n := by omega
      have F1 := H.out.2.2.1.c0; have F2 := H.out.2.2.1.c1; have F3 := H.out.2.2.1.f0; have F4 := H.out.2.2.1.f1
      have G1 := H.out.2.1.c0; have G2 := H.out.2.1.c1; have G3 := H.out.2.1.f0; have G4 := H.out.2.1.f1
      go_wp2_with fail
      obtain ⟨X1, hW, b4, p'⟩ := H.out.2.1.put' sa aa na ca
      rw [← hW]; clear hW
      have T0 := b4.c0; have T1 := b4.c1
      exact bodyPost_ret (v := .agg #[.bool sa, .slice aa na ca]) (by simp [results, Tryd.results47, go_sem, T0, T1]) rfl ⟨_, _, _, _, rfl, H.out.2.2.2.2.2.pt p' (by omega), H.out.2.2.2.2.1.pt p'⟩
    · have hpn := hpn h0
      have hkp : k1 * p ≤ k1 * n := Nat.mul_le_mul_left _ hpn
      have hkm : k1 * m ≤ k1 * n := Nat.mul_le_mul_left _ (by omega)
      have hgi : decide ((0 : Int) < (gk : Int)) = true := by simp; omega
      have hm2 : ((gk : Int).tmod 2) = ((gk % 2 : Nat) : Int) := by rw [Int.tmod_eq_emod_of_nonneg (by omega)]; omega
      have hd2 : ((gk : Int).tdiv 2) = ((gk / 2 : Nat) : Int) := by rw [Int.tdiv_eq_ediv_of_nonneg (by omega)]; omega
      rcases Nat.mod_two_eq_zero_or_one gk with ho | ho
      · rw [ho] at hm2
        obtain ⟨j, rfl⟩ : ∃ j, gk = 2 * j := ⟨gk / 2, by omega⟩
        rw [show 2 * j / 2 = j by omega] at hd2
        have hone : decide ((1 : Int) < ((2 * j : Nat) : Int)) = true := by simp; omega
        have F1 := H.out.1.c0; have F2 := H.out.1.c1; have F3 := H.out.1.f0; have F4 := H.out.1.f1
        go_wp2_with fail
        refine Calls.mono (Mul_c wr sb sb ab ab nb nb cb cb (k1 * p) (k1 * p) (z1 ^ p) (z1 ^ p) H.out.2.2.2.1 H.out.2.2.2.1 (by omega) (by omega)) ?_
        rintro e w1 ⟨s3, a3, n3, c3, rfl, e1, h3⟩
        clear F1 F2 F3 F4
        have b2 := H.out.1.ext e1
        have b4 := H.out.2.1.ext e1
        have b5 := H.out.2.2.1.ext e1
        have ha := H.out.2.2.2.2.1.ext e1
        have E := H.out.2.2.2.2.2.trans e1
        clear H e1
        have F1 := b2.c0; have F2 := b2.c1; have F3 := b2.f0; have F4 := b2.f1
        go_upto_region 3 with (fail)
        clear F1 F2 F3 F4
        obtain ⟨w2, hW, b2, p'⟩ := b2.put' s3 a3 n3 c3
        rw [← hW]; clear hW
        have I' := hid (show PwI w k1 n z1 g5 j w2 from ⟨m, p + p, _, _, _, _, _, _, _, _, (pw_even hmp).1, (pw_even hmp).2, b2, b4.pt p' (by omega), b5.pt p' (by omega), by rw [Nat.mul_add, Int.pow_add]; exact h3.pt p', ha.pt p', E.pt p' (by omega)⟩)
        clear b2 b4 b5 ha E h3 p'
        go_wp2_with fail
        go_roundg j
        case measure => omega
        case rel => exact ⟨rfl, by omega, I'⟩
      · rw [ho] at hm2
        have F1 := H.out.2.2.1.c0; have F2 := H.out.2.2.1.c1; have F3 := H.out.2.2.1.f0; have F4 := H.out.2.2.1.f1
        have G1 := H.out.1.c0; have G2 := H.out.1.c1; have G3 := H.out.1.f0; have G4 := H.out.1.f1
        go_wp2_with fail
        refine Calls.mono (Mul_c wr sa sb aa ab na nb ca cb (k1 * m + 1) (k1 * p) (z1 ^ m) (z1 ^ p) H.out.2.2.2.2.1 H.out.2.2.2.1 (by omega) (by omega)) ?_
        rintro e w1 ⟨s3, a3, n3, c3, rfl, e1, h3⟩
        clear F1 F2 F3 F4 G1 G2 G3 G4
        have b2 := H.out.1.ext e1
        have b4 := H.out.2.1.ext e1
        have b5 := H.out.2.2.1.ext e1
        have hb := H.out.2.2.2.1.ext e1
        have E := H.out.2.2.2.2.2.trans e1
        clear H e1
        have F1 := b5.c0; have F2 := b5.c1; have F3 := b5.f0; have F4 := b5.f1
        go_upto_region 6 with (fail)
        clear F1 F2 F3 F4
        obtain ⟨w2, hW, b5, p'⟩ := b5.put' s3 a3 n3 c3
        rw [← hW]; clear hW
        have b2 := b2.pt p' (by omega)
        have b4 := b4.pt p' (by omega)
        have hb := hb.pt p'
        have E := E.pt p' (by omega)
        have h3 := h3.pt p'
        clear p'
        have h3 : IntAt w2 (k1 * (m + p) + 1) s3 a3 n3 c3 (z1 ^ (m + p)) := by rw [Nat.mul_add, Int.pow_add, show k1 * m + k1 * p + 1 = k1 * m + 1 + k1 * p by omega]; exact h3
        obtain ⟨j, rfl⟩ : ∃ j, gk = 2 * j + 1 := ⟨gk / 2, by omega⟩
        rw [show (2 * j + 1) / 2 = j by omega] at hd2
        rcases Nat.eq_zero_or_pos j with hj | hj
        · subst hj
          have I' := hid (show PwI w k1 n z1 g5 0 w2 from ⟨m + p, p, _, _, _, _, _, _, _, _, by omega, fun h => by omega, b2, b4, b5, hb, h3, E⟩)
          clear b2 b4 b5 hb E h3
          go_wp2_with fail
          go_roundg 0
          case measure => omega
          case rel => exact ⟨rfl, by omega, I'⟩
        · have hone : decide ((1 : Int) < ((2 * j + 1 : Nat) : Int)) = true := by simp; omega
          have F1 := b2.c0; have F2 := b2.c1; have F3 := b2.f0; have F4 := b2.f1
          go_wp2_with fail
          refine Calls.mono (Mul_c w2 sb sb ab ab nb nb cb cb (k1 * p) (k1 * p) (z1 ^ p) (z1 ^ p) hb hb (by omega) (by omega)) ?_
          rintro e w3 ⟨s4, a4, n4, c4, rfl, e3, h4⟩
          clear F1 F2 F3 F4
          have b2 := b2.ext e3
          have b4 := b4.ext e3
          have b5 := b5.ext e3
          have h3 := h3.ext e3
          have E := E.trans e3
          clear hb e3
          have F1 := b2.c0; have F2 := b2.c1; have F3 := b2.f0; have F4 := b2.f1
          go_upto_region 3 with (fail)
          clear F1 F2 F3 F4
          obtain ⟨w4, hW, b2, p'⟩ := b2.put' s4 a4 n4 c4
          rw [← hW]; clear hW
          have I' := hid (show PwI w k1 n z1 g5 j w4 from ⟨m + p, p + p, _, _, _, _, _, _, _, _, (pw_odd hmp).1, (pw_odd hmp).2, b2, b4.pt p' (by omega), b5.pt p' (by omega), by rw [Nat.mul_add, Int.pow_add]; exact h4.pt p', h3.pt p', E.pt p' (by omega)⟩)
          clear b2 b4 b5 E h3 h4 p'
          go_wp2_with fail
          go_roundg j
          case measure => omega
          case rel => exact ⟨by rw [show ((2 * (j : Int) + 1) / 2) = (j : Int) by omega], by omega, I'⟩
end Go.Proofs.YtpflfagjkmeeiaaDoor
namespace Go.Proofs.YtpflfagjkmeeiaaDoor
open Go Go.RowKit

theorem Or_c (w : World) (g : Nat) (v : Int) (h0 : w.cell? ⟨g, 0, none⟩ = some (.int .i64 v)) (h1 : w.cell? ⟨g, 1, none⟩ = some (.int .i64 1)) :
    Calls Tryd.prog 44 #[.slice (some ⟨g, 0, none⟩) 2 2] w (RSame w (.int .i64 (if v = 0 then 1 else v))) := by
  obtain ⟨r, hr⟩ : ∃ r, r = (if v = 0 then 1 else v) := ⟨_, rfl⟩
  rw [← hr]
  have Hr := hid hr
  clear hr
  go_enter Tryd.func44, Tryd.ntmps44
  go_wp2_with fail
  go_loop [8] (fun i => ∃ k : Nat, i = .int .i64 k ∧ k ≤ 1 ∧ (k = 1 → v = 0)) (fun i => 2 - (intOf i).toNat)
  case atStart => exact ⟨0, rfl, by omega, by omega⟩
  case round =>
    obtain ⟨k, rfl, hk, hv⟩ := hrel
    rcases Nat.eq_zero_or_pos k with hk0 | hk0
    · subst hk0
      by_cases hv0 : v = 0
      · subst hv0
        go_wp2_with fail
        case roundEnd => exact ⟨⟨1, rfl, by omega, fun _ => trivial⟩, by simp [intOf]⟩
      · have hb : (v == 0) = false := by simpa using hv0
        go_wp2_with fail
        exact bodyPost_ret (v := .int .i64 v) (by simp [results, Tryd.results44, go_sem]) rfl ⟨by rw [Hr.out, if_neg hv0], rfl⟩
    · obtain rfl : k = 1 := by omega
      have hv0 := hv rfl
      subst hv0
      go_wp2_with fail
      exact bodyPost_ret (v := .int .i64 1) (by simp [results, Tryd.results44, go_sem]) rfl ⟨by rw [Hr.out]; simp, rfl⟩
end Go.Proofs.YtpflfagjkmeeiaaDoor
