/-
  Integers of package integer: DivMod. Every two integers of at most 2^28 words, the divisor not 0. Integers of package integer: DivMod by 0. No condition. Integers of package integer: mod. Every two integers of at most 2^27 words, the divisor not 0. Integers of package integer: Gcd. Every two integers of at most 2^27 words.
-/
import Derived.Test.YtkeikfekkdplgaaGreatDoorRg
import Derived.Test.YtkeikfekkdplgaaGreatDoorInt4
namespace Go.Proofs.YtkeikfekkdplgaaGreatDoor
open Go Go.RowKit

/-- The integer in as many words as its size wants. -/
theorem IntAt.tight {w : World} {k k' n cap : Nat} {s : Bool} {ao : Option Addr} {z : Int} (h : IntAt w k s ao n cap z) (hz : z.natAbs < 4294967296 ^ k') : IntAt w k' s ao n cap z := by
  obtain ⟨m, h1, h2, h3⟩ := h
  exact ⟨m, h1.tight (by rw [h3] at hz; cases s <;> simpa using hz), h2, h3⟩
theorem IntAt.size {w : World} {k n cap : Nat} {s : Bool} {ao : Option Addr} {z : Int} (h : IntAt w k s ao n cap z) : z.natAbs < 4294967296 ^ k := by
  obtain ⟨m, h1, h2, h3⟩ := h
  have := Nat.lt_of_lt_of_le h1.lt (Nat.pow_le_pow_right (by omega : 0 < 4294967296) h1.le)
  rw [h3]; cases s <;> simpa using this
theorem IntAt.zero_iff {w : World} {k n cap : Nat} {s : Bool} {ao : Option Addr} {z : Int} (h : IntAt w k s ao n cap z) : z = 0 ↔ n = 0 := by
  obtain ⟨m, h1, h2, h3⟩ := h
  rw [← h1.zero, h3]
  cases s <;> simp
theorem IntAt.neg_iff {w : World} {k n cap : Nat} {s : Bool} {ao : Option Addr} {z : Int} (h : IntAt w k s ao n cap z) : z < 0 ↔ s = true := by
  have hz := h.zero_iff
  obtain ⟨m, h1, h2, h3⟩ := h
  cases s
  · simp [h3]
  · have : n ≠ 0 := fun h0 => by have := h2 h0; cases this
    simp only [iff_true]
    have h4 : z ≠ 0 := fun h5 => this (hz.1 h5)
    simp at h3; omega

theorem ediv_unique (a b q r : Int) (h : a = q * b + r) (h0 : 0 ≤ r) (h1 : r < b.natAbs) : a / b = q ∧ a % b = r := by
  rcases Int.lt_or_lt_of_ne (show b ≠ 0 by omega) with hb | hb
  · have := (Int.ediv_emod_unique (a := a) (b := -b) (r := r) (q := -q) (by omega)).2 ⟨by rw [h]; grind, h0, by omega⟩
    rw [Int.ediv_neg, Int.emod_neg] at this
    omega
  · exact (Int.ediv_emod_unique hb).2 ⟨by rw [h]; grind, h0, by omega⟩
theorem sign_lo (z : Int) : -9223372036854775808 ≤ z.sign := by
  rcases Int.lt_trichotomy z 0 with h | h | h
  · rw [Int.sign_eq_neg_one_of_neg h]; decide
  · subst h; decide
  · rw [Int.sign_eq_one_of_pos h]; decide
theorem sign_hi (z : Int) : z.sign ≤ 9223372036854775807 := by
  rcases Int.lt_trichotomy z 0 with h | h | h
  · rw [Int.sign_eq_neg_one_of_neg h]; decide
  · subst h; decide
  · rw [Int.sign_eq_one_of_pos h]; decide
theorem dm_math (s1 s2 : Bool) (m1 m2 : Nat) (z1 z2 q r : Int) (h0 : 0 < m2) (h1 : z1 = if s1 then -(m1 : Int) else m1) (h2 : z2 = if s2 then -(m2 : Int) else m2)
    (hq : q = if (!(s1 == s2)) then -((m1 / m2 : Nat) : Int) else (m1 / m2 : Nat)) (hr : r = if s1 then -((m1 % m2 : Nat) : Int) else (m1 % m2 : Nat)) : z1 = q * z2 + r ∧ r.natAbs < z2.natAbs := by
  have hd : (m1 : Int) = (m2 : Int) * (m1 / m2 : Nat) + (m1 % m2 : Nat) := by exact_mod_cast (Nat.div_add_mod m1 m2).symm
  have hlt := Nat.mod_lt m1 h0
  generalize m1 / m2 = a at *
  generalize m1 % m2 = b at *
  subst h1; subst h2; subst hq; subst hr
  refine ⟨?_, by cases s1 <;> cases s2 <;> simp <;> omega⟩
  rw [hd]
  cases s1 <;> cases s2 <;> simp <;> grind
theorem dm_pos (z1 z2 q r : Int) (k1 k2 : Nat) (h : z1 = q * z2 + r ∧ r.natAbs < z2.natAbs) (h1 : z1.natAbs < 4294967296 ^ k1) (h2 : z2.natAbs < 4294967296 ^ k2) (hr : 0 ≤ r) :
    z1 / z2 = q ∧ z1 % z2 = r ∧ q.natAbs < 4294967296 ^ k1 ∧ r.natAbs < 4294967296 ^ k2 := by
  obtain ⟨h3, h4⟩ := ediv_unique z1 z2 q r h.1 hr (by omega)
  have := Int.natAbs_ediv_le_natAbs z1 z2
  exact ⟨h3, h4, by omega, by omega⟩
theorem dm_neg (z1 z2 q r : Int) (k1 k2 : Nat) (h : z1 = q * z2 + r ∧ r.natAbs < z2.natAbs) (h1 : z1.natAbs < 4294967296 ^ k1) (h2 : z2.natAbs < 4294967296 ^ k2) (hr : r < 0) :
    z1 / z2 = q - z2.sign ∧ z1 % z2 = r + z2.natAbs ∧ (q - z2.sign).natAbs < 4294967296 ^ k1 ∧ (r + z2.natAbs).natAbs < 4294967296 ^ k2 := by
  have hs : z2.sign * z2 = z2.natAbs := by rw [Int.mul_comm]; exact Int.mul_sign_self z2
  refine dm_pos z1 z2 (q - z2.sign) (r + z2.natAbs) k1 k2 ⟨?_, by omega⟩ h1 h2 (by omega)
  rw [h.1, Int.sub_mul, hs]; omega

/-- Hands back two integers and no error. -/
def RDM (w0 : World) (k1 k2 : Nat) (q r : Int) (e : Ending) (w' : World) : Prop :=
  ∃ s1 a1 n1 c1 s2 a2 n2 c2, e = .returned (.tuple #[.agg #[.bool s1, .slice a1 n1 c1], .agg #[.bool s2, .slice a2 n2 c2], .int .i64 0]) ∧ Ext w0 w' ∧ IntAt w' k1 s1 a1 n1 c1 q ∧ IntAt w' k2 s2 a2 n2 c2 r

set_option maxRecDepth 100000 in
set_option maxHeartbeats 2000000 in
theorem DivMod_c (w : World) (s1 s2 : Bool) (a1 a2 : Option Addr) (n1 n2 c1 c2 k1 k2 : Nat) (z1 z2 : Int) (h1 : IntAt w k1 s1 a1 n1 c1 z1) (h2 : IntAt w k2 s2 a2 n2 c2 z2) (l1 : k1 ≤ 134217728) (l2 : k2 ≤ 134217728) (hz2 : z2 ≠ 0) :
    Calls Tryz.prog 213 #[.agg #[.bool s1, .slice a1 n1 c1], .agg #[.bool s2, .slice a2 n2 c2]] w (RDM w k1 k2 (z1 / z2) (z1 % z2)) := by
  have hn2 : n2 ≠ 0 := fun h => hz2 (h2.zero_iff.2 h)
  have hn2' : ((n2 : Int) == 0) = false := by rw [beq_eq_false_iff_ne]; omega
  have I1 := hid h1
  have I2 := hid h2
  obtain ⟨m1, g1, _, hz1⟩ := h1
  obtain ⟨m2, g2, _, hzz2⟩ := h2
  have hm2 : 0 < m2 := by
    rcases Nat.eq_zero_or_pos m2 with h | h
    · exact absurd (g2.zero.1 h) hn2
    · exact h
  obtain ⟨W, hW, K0⟩ := kq22 w s1 s2 a1 a2 n1 n2 c1 c2
  have hdiv := hid (div_c W a1 a2 n1 n2 c1 c2 k1 k2 m1 m2 (g1.ext K0.ext) (g2.ext K0.ext) (by omega) hm2)
  have Hz1 := hid hz1
  have Hz2 := hid hzz2
  clear hz1 hzz2 hn2 hz2
  go_enter Tryz.func213, Tryz.ntmps213
  go_wp2_with fail
  rw [← hW]
  clear hW
  refine Calls.mono hdiv.out ?_
  rintro e w1 ⟨aq, nq, cq, ar, nr, cr, rfl, e1, hq, hr⟩
  have K1 := K0.after e1
  have b2 := K1.bx w.heap.size s1 a1 n1 c1 (by simp)
  have b3 := K1.bx (w.heap.size + 1) s2 a2 n2 c2 (by simp)
  have b4 : Bx w1 (w.heap.size + 1 + 1) false none 0 0 := K1.bx (w.heap.size + 2) false none 0 0 (by simp)
  have b5 : Bx w1 (w.heap.size + 1 + 1 + 1) false none 0 0 := K1.bx (w.heap.size + 3) false none 0 0 (by simp)
  obtain ⟨xq, wq, lq, _, vq⟩ := hq
  obtain ⟨xr, wr, lr, _, vr⟩ := hr
  have hq0 : ∃ q0 : Int, q0 = if (!(s1 == s2)) then -(natVal xq : Int) else natVal xq := ⟨_, rfl⟩
  have hr0 : ∃ r0 : Int, r0 = if s1 then -(natVal xr : Int) else natVal xr := ⟨_, rfl⟩
  obtain ⟨q0, hq0⟩ := hq0
  obtain ⟨r0, hr0⟩ := hr0
  have Hq0 := hid hq0
  have Hr0 := hid hr0
  have Vq := hid vq
  have Vr := hid vr
  clear hdiv vq vr hq0 hr0
  go_wp2_with fail
  have B2 := hid b2
  have B3 := hid b3
  have B4 := hid b4
  have B5 := hid b5
  clear b2 b3 b4 b5
  refine wp_region_rg 13 [some 25, some 26, some 27, some 28, some 29, some 30, some 31, some 32, some 33, some 34, some 35, some 9, some 10]
    [IsV (.pointer (some ⟨w.heap.size, 0, none⟩)), IsV (.bool s1), IsV (.pointer (some ⟨w.heap.size + 1, 0, none⟩)), IsV (.bool s2), IsV (.bool (!(s1 == s2))), IsV (.slice aq nq cq), IsI nq q0,
     IsV (.pointer (some ⟨w.heap.size, 0, none⟩)), IsV (.bool s1), IsV (.slice ar nr cr), IsI nr r0, IsB w1, IsB w1] [11, 12] 2 (by kernel_rfl) (by decide) (by kernel_rfl) (by kernel_rfl) (by kernel_rfl) (by kernel_rfl) (by kernel_rfl) ?_ ?_ ?_ ?_
  · repeat' (first | exact trivial | exact IsV.stb _ | exact IsI.stb _ _ | exact IsB.stb _ | apply And.intro)
  · intro i hi; simp only [List.mem_cons, List.not_mem_nil, or_false] at hi; rcases hi with rfl | rfl <;> exact IsB.box _
  · refine RgAll.cons (by { intro v w' hE hd; simp only [layL, Act.put, uAx, u0x, u1x, Nat.reduceAdd]; skip; skip; intro K hK; go_simp; exact hK.out _ _ (Ext.refl _) rfl (FreshIf.no rfl) }) ?_
    refine RgAll.cons (by { intro v w' hE hd; simp only [layL, Act.put, uAx, u0x, u1x, Nat.reduceAdd]; have d0 : v 0 = .pointer (some ⟨w.heap.size, 0, none⟩) := hd 0 (by kernel_rfl); have L0 := Bx.c0 (B2.out.ext hE); have L1 := Bx.c1 (B2.out.ext hE); rw [d0]; intro K hK; go_simp; exact hK.out _ _ (Ext.refl _) rfl (FreshIf.no rfl) }) ?_
    refine RgAll.cons (by { intro v w' hE hd; simp only [layL, Act.put, uAx, u0x, u1x, Nat.reduceAdd]; skip; skip; intro K hK; go_simp; exact hK.out _ _ (Ext.refl _) rfl (FreshIf.no rfl) }) ?_
    refine RgAll.cons (by { intro v w' hE hd; simp only [layL, Act.put, uAx, u0x, u1x, Nat.reduceAdd]; have d0 : v 2 = .pointer (some ⟨w.heap.size + 1, 0, none⟩) := hd 2 (by kernel_rfl); have L0 := Bx.c0 (B3.out.ext hE); have L1 := Bx.c1 (B3.out.ext hE); rw [d0]; intro K hK; go_simp; exact hK.out _ _ (Ext.refl _) rfl (FreshIf.no rfl) }) ?_
    refine RgAll.cons (by { intro v w' hE hd; simp only [layL, Act.put, uAx, u0x, u1x, Nat.reduceAdd]; have d0 : v 1 = .bool s1 := hd 1 (by kernel_rfl); have d1 : v 3 = .bool s2 := hd 3 (by kernel_rfl); rw [d0, d1]; intro K hK; go_simp; exact hK.out _ _ (Ext.refl _) rfl (FreshIf.no rfl) }) ?_
    refine RgAll.cons (by { intro v w' hE hd; simp only [layL, Act.put, uAx, u0x, u1x, Nat.reduceAdd]; skip; skip; intro K hK; go_simp; exact hK.out _ _ (Ext.refl _) rfl (FreshIf.no rfl) }) ?_
    refine RgAll.cons (by { intro v w' hE hd; simp only [layL, Act.put, uAx, u0x, u1x, Nat.reduceAdd]; have d0 : v 4 = .bool (!(s1 == s2)) := hd 4 (by kernel_rfl); have d1 : v 5 = .slice aq nq cq := hd 5 (by kernel_rfl); rw [d0, d1]; intro K hK; go_simp; go_at_call 131; go_split_ands; (with_reducible refine Calls.mono (of_c _ _ aq nq cq xq q0 (wq.ext hE) Hq0.out) ?_); rintro e w2 ⟨s9, a9, n9, c9, rfl, e2, h9⟩; exact hK.out _ _ e2 ⟨_, _, _, _, rfl, h9⟩ (FreshIf.no rfl) }) ?_
    refine RgAll.cons (by { intro v w' hE hd; simp only [layL, Act.put, uAx, u0x, u1x, Nat.reduceAdd]; skip; skip; intro K hK; go_simp; exact hK.out _ _ (Ext.refl _) rfl (FreshIf.no rfl) }) ?_
    refine RgAll.cons (by { intro v w' hE hd; simp only [layL, Act.put, uAx, u0x, u1x, Nat.reduceAdd]; have d0 : v 7 = .pointer (some ⟨w.heap.size, 0, none⟩) := hd 7 (by kernel_rfl); have L0 := Bx.c0 (B2.out.ext hE); have L1 := Bx.c1 (B2.out.ext hE); rw [d0]; intro K hK; go_simp; exact hK.out _ _ (Ext.refl _) rfl (FreshIf.no rfl) }) ?_
    refine RgAll.cons (by { intro v w' hE hd; simp only [layL, Act.put, uAx, u0x, u1x, Nat.reduceAdd]; skip; skip; intro K hK; go_simp; exact hK.out _ _ (Ext.refl _) rfl (FreshIf.no rfl) }) ?_
    refine RgAll.cons (by { intro v w' hE hd; simp only [layL, Act.put, uAx, u0x, u1x, Nat.reduceAdd]; have d0 : v 8 = .bool s1 := hd 8 (by kernel_rfl); have d1 : v 9 = .slice ar nr cr := hd 9 (by kernel_rfl); rw [d0, d1]; intro K hK; go_simp; go_at_call 131; go_split_ands; (with_reducible refine Calls.mono (of_c _ _ ar nr cr xr r0 (wr.ext hE) Hr0.out) ?_); rintro e w2 ⟨s9, a9, n9, c9, rfl, e2, h9⟩; exact hK.out _ _ e2 ⟨_, _, _, _, rfl, h9⟩ (FreshIf.no rfl) }) ?_
    refine RgAll.cons (by { intro v w' hE hd; simp only [layL, Act.put, uAx, u0x, u1x, Nat.reduceAdd]; intro K hK; go_simp; refine hK.out _ _ ((Ext.refl _).alloc _) ⟨_, rfl, hE.size, Bx.new _ _ _ _ _⟩ FreshIf.yes }) ?_
    refine RgAll.cons (by { intro v w' hE hd; simp only [layL, Act.put, uAx, u0x, u1x, Nat.reduceAdd]; intro K hK; go_simp; refine hK.out _ _ ((Ext.refl _).alloc _) ⟨_, rfl, hE.size, Bx.new _ _ _ _ _⟩ FreshIf.yes }) ?_
    exact RgAll.nil
  intro v w2 e2 hΦ hne
  have d6 : IsI nq q0 (v 6) w2 := hΦ 6 (by decide)
  have d10 : IsI nr r0 (v 10) w2 := hΦ 10 (by decide)
  have d11 : IsB w1 (v 11) w2 := hΦ 11 (by decide)
  have d12 : IsB w1 (v 12) w2 := hΦ 12 (by decide)
  have hne := hne 11 12 (by decide) (by decide) (by decide) (by decide) (by decide)
  obtain ⟨s3, a3, n3, c3, v6, h3⟩ := d6
  obtain ⟨s4, a4, n4, c4, v10, h4⟩ := d10
  obtain ⟨g1, v11, hg1, b1⟩ := d11
  obtain ⟨g2, v12, hg2, b2⟩ := d12
  rw [v11, v12] at hne
  have hne : g2 ≠ g1 := fun h => hne (by rw [h])
  have l0 : w.heap.size + 3 < w1.heap.size := B5.out.lt
  have B2 := hid (B2.out.ext e2)
  have B3 := hid (B3.out.ext e2)
  have B4 := hid (B4.out.ext e2)
  have B5 := hid (B5.out.ext e2)
  have E := K1.ext.trans e2
  simp only [layL, Act.put, uAx, u0x, u1x, Nat.reduceAdd]
  rw [v6, v10, v11, v12]
  clear v6 v10 v11 v12 hΦ
  have F1 := b1.c0; have F2 := b1.c1; have F3 := b1.f0; have F4 := b1.f1
  refine wpAny_ready (rs := [13]) (by kernel_rfl) (by simp) (AllReady.cons rfl (fun K hK => ?_) AllReady.nil); go_simp; refine hK _ _ ?_; clear hK K
  clear F1 F2 F3 F4
  obtain ⟨w3, hW, P1, P2, P3, P4⟩ := b1.put s3 a3 n3 c3; rw [← hW]; clear hW
  have b1 := P1
  have b2 := P2 hne b2
  have B2 := hid (P2 (show w.heap.size ≠ g1 by omega) B2.out)
  have B3 := hid (P2 (show w.heap.size + 1 ≠ g1 by omega) B3.out)
  have B4 := hid (P2 (show w.heap.size + 1 + 1 ≠ g1 by omega) B4.out)
  have B5 := hid (P2 (show w.heap.size + 1 + 1 + 1 ≠ g1 by omega) B5.out)
  have E := P4 E (by omega)
  have h3 := h3.gr P3
  have h4 := h4.gr P3
  clear P1 P2 P3 P4
  have F1 := b2.c0; have F2 := b2.c1; have F3 := b2.f0; have F4 := b2.f1
  refine wpAny_ready (rs := [14]) (by kernel_rfl) (by simp) (AllReady.cons rfl (fun K hK => ?_) AllReady.nil); go_simp; refine hK _ _ ?_; clear hK K
  clear F1 F2 F3 F4
  obtain ⟨w4, hW, P1, P2, P3, P4⟩ := b2.put s4 a4 n4 c4; rw [← hW]; clear hW
  have b1 := P2 (Ne.symm hne) b1
  have b2 := P1
  have B2 := hid (P2 (show w.heap.size ≠ g2 by omega) B2.out)
  have B3 := hid (P2 (show w.heap.size + 1 ≠ g2 by omega) B3.out)
  have B4 := hid (P2 (show w.heap.size + 1 + 1 ≠ g2 by omega) B4.out)
  have B5 := hid (P2 (show w.heap.size + 1 + 1 + 1 ≠ g2 by omega) B5.out)
  have E := P4 E (by omega)
  have h3 := h3.gr P3
  have h4 := h4.gr P3
  clear P1 P2 P3 P4
  refine wpAny_done (by kernel_rfl) ?_ _
  have N4 := hid h4.neg_iff
  have hM := hid (dm_math s1 s2 m1 m2 z1 z2 q0 r0 hm2 Hz1.out Hz2.out (by rw [← Vq.out]; exact Hq0.out) (by rw [← Vr.out]; exact Hr0.out))
  have F1 := b2.c0; have F2 := b2.c1; have F3 := b2.f0; have F4 := b2.f1
  go_wp2_with fail
  · rename_i hs4 _ _
    subst hs4
    have hM := hid (dm_neg z1 z2 q0 r0 k1 k2 hM.out I1.out.size I2.out.size (N4.out.2 rfl))
    clear F1 F2 F3 F4
    have I2' := I2.out.ext E
    refine wp_region_rg 4 [some 38, some 39, some 40, some 41] [IsV (.agg #[.bool true, .slice a4 n4 c4]), IsV (.agg #[.bool s2, .slice a2 n2 c2]), IsI k2 (z2.natAbs : Int), IsI (max nr k2 + 1) (r0 + z2.natAbs)] [] 1 (by kernel_rfl) (by decide) (by kernel_rfl) (by kernel_rfl) (by kernel_rfl) (by kernel_rfl) (by kernel_rfl) ?_ (fun _ h => by cases h) ?_ ?_
    · repeat' (first | exact trivial | exact IsV.stb _ | exact IsI.stb _ _ | exact IsB.stb _ | apply And.intro)
    · refine RgAll.cons (by { intro v w' hE hd; simp only [layL, Act.put, uAx, u0x, u1x, Nat.reduceAdd]; have L0 := Bx.c0 (b2.ext hE); have L1 := Bx.c1 (b2.ext hE); skip; intro K hK; go_simp; exact hK.out _ _ (Ext.refl _) rfl (FreshIf.no rfl) }) ?_
      refine RgAll.cons (by { intro v w' hE hd; simp only [layL, Act.put, uAx, u0x, u1x, Nat.reduceAdd]; have L0 := Bx.c0 (B3.out.ext hE); have L1 := Bx.c1 (B3.out.ext hE); skip; intro K hK; go_simp; exact hK.out _ _ (Ext.refl _) rfl (FreshIf.no rfl) }) ?_
      refine RgAll.cons (by { intro v w' hE hd; simp only [layL, Act.put, uAx, u0x, u1x, Nat.reduceAdd]; have d0 : v 1 = .agg #[.bool s2, .slice a2 n2 c2] := hd 1 (by kernel_rfl); rw [d0]; intro K hK; go_simp; go_at_call 130; go_split_ands; (with_reducible refine Calls.mono (Abs_c _ s2 a2 n2 c2 k2 z2 (I2'.ext hE)) ?_); rintro e w2 ⟨s9, a9, n9, c9, rfl, e2, h9⟩; exact hK.out _ _ e2 ⟨_, _, _, _, rfl, h9⟩ (FreshIf.no rfl) }) ?_
      refine RgAll.cons (by { intro v w' hE hd; simp only [layL, Act.put, uAx, u0x, u1x, Nat.reduceAdd]; have d0 : v 0 = .agg #[.bool true, .slice a4 n4 c4] := hd 0 (by kernel_rfl); have d1 : IsI k2 (z2.natAbs : Int) (v 2) w' := hd 2 (by kernel_rfl); obtain ⟨s5, a5, n5, c5, d1, h5⟩ := d1; rw [d0, d1]; intro K hK; go_simp; go_at_call 140; go_split_ands; (with_reducible refine Calls.mono (Add_c _ true s5 a4 a5 n4 n5 c4 c5 nr k2 r0 z2.natAbs (h4.ext hE) h5 (by omega) (by omega)) ?_); rintro e w2 ⟨s9, a9, n9, c9, rfl, e2, h9⟩; exact hK.out _ _ e2 ⟨_, _, _, _, rfl, h9⟩ (FreshIf.no rfl) }) ?_
      exact RgAll.nil
    intro v w5 e5 hΦ _
    have d3 : IsI (max nr k2 + 1) (r0 + z2.natAbs) (v 3) w5 := hΦ 3 (by decide)
    obtain ⟨s5, a5, n5, c5, v3, h5⟩ := d3
    have b1 := b1.ext e5
    have b2 := b2.ext e5
    have B2 := hid (B2.out.ext e5); have B3 := hid (B3.out.ext e5); have B4 := hid (B4.out.ext e5); have B5 := hid (B5.out.ext e5); have E := E.trans e5
    have h3 := h3.ext e5
    simp only [layL, Act.put, uAx, u0x, u1x, Nat.reduceAdd]
    rw [v3]
    clear v3 hΦ h4
    have F1 := b2.c0; have F2 := b2.c1; have F3 := b2.f0; have F4 := b2.f1
    refine wpAny_ready (rs := [4]) (by kernel_rfl) (by simp) (AllReady.cons rfl (fun K hK => ?_) AllReady.nil); go_simp; refine hK _ _ ?_; clear hK K
    clear F1 F2 F3 F4
    obtain ⟨w6, hW, P1, P2, P3, P4⟩ := b2.put s5 a5 n5 c5; rw [← hW]; clear hW
    have b1 := P2 (Ne.symm hne) b1
    have b2 := P1
    have B2 := hid (P2 (show w.heap.size ≠ g2 by omega) B2.out); have B3 := hid (P2 (show w.heap.size + 1 ≠ g2 by omega) B3.out); have B4 := hid (P2 (show w.heap.size + 1 + 1 ≠ g2 by omega) B4.out); have B5 := hid (P2 (show w.heap.size + 1 + 1 + 1 ≠ g2 by omega) B5.out); have E := P4 E (by omega)
    have h3 := h3.gr P3
    have h5 := h5.gr P3
    clear P1 P2 P3 P4
    refine wpAny_done (by kernel_rfl) ?_ _
    go_wp2_with fail
    have I2' := I2.out.ext E
    refine wp_region_rg 5 [some 42, some 43, some 44, some 45, some 46] [IsV (.agg #[.bool s3, .slice a3 n3 c3]), IsV (.agg #[.bool s2, .slice a2 n2 c2]), IsV (.int .i64 z2.sign), IsI 2 z2.sign, IsI (max nq 2 + 1) (q0 - z2.sign)] [] 1 (by kernel_rfl) (by decide) (by kernel_rfl) (by kernel_rfl) (by kernel_rfl) (by kernel_rfl) (by kernel_rfl) ?_ (fun _ h => by cases h) ?_ ?_
    · repeat' (first | exact trivial | exact IsV.stb _ | exact IsI.stb _ _ | exact IsB.stb _ | apply And.intro)
    · refine RgAll.cons (by { intro v w' hE hd; simp only [layL, Act.put, uAx, u0x, u1x, Nat.reduceAdd]; have L0 := Bx.c0 (b1.ext hE); have L1 := Bx.c1 (b1.ext hE); skip; intro K hK; go_simp; exact hK.out _ _ (Ext.refl _) rfl (FreshIf.no rfl) }) ?_
      refine RgAll.cons (by { intro v w' hE hd; simp only [layL, Act.put, uAx, u0x, u1x, Nat.reduceAdd]; have L0 := Bx.c0 (B3.out.ext hE); have L1 := Bx.c1 (B3.out.ext hE); skip; intro K hK; go_simp; exact hK.out _ _ (Ext.refl _) rfl (FreshIf.no rfl) }) ?_
      refine RgAll.cons (by { intro v w' hE hd; simp only [layL, Act.put, uAx, u0x, u1x, Nat.reduceAdd]; have d0 : v 1 = .agg #[.bool s2, .slice a2 n2 c2] := hd 1 (by kernel_rfl); rw [d0]; intro K hK; go_simp; go_at_call 127; go_split_ands; (with_reducible refine Calls.mono (Sign_c _ s2 a2 n2 c2 k2 z2 (I2'.ext hE)) ?_); rintro e w2 ⟨rfl, e2⟩; exact hK.out _ _ e2 rfl (FreshIf.no rfl) }) ?_
      refine RgAll.cons (by { intro v w' hE hd; simp only [layL, Act.put, uAx, u0x, u1x, Nat.reduceAdd]; have d0 : v 2 = .int .i64 z2.sign := hd 2 (by kernel_rfl); rw [d0]; intro K hK; go_simp; go_at_call 108; go_split_ands; (with_reducible refine Calls.mono (Of_c _ z2.sign (sign_lo z2) (sign_hi z2)) ?_); rintro e w2 ⟨s9, a9, n9, c9, rfl, e2, h9⟩; exact hK.out _ _ e2 ⟨_, _, _, _, rfl, h9⟩ (FreshIf.no rfl) }) ?_
      refine RgAll.cons (by { intro v w' hE hd; simp only [layL, Act.put, uAx, u0x, u1x, Nat.reduceAdd]; have d0 : v 0 = .agg #[.bool s3, .slice a3 n3 c3] := hd 0 (by kernel_rfl); have d1 : IsI 2 z2.sign (v 3) w' := hd 3 (by kernel_rfl); obtain ⟨s6, a6, n6, c6, d1, h6⟩ := d1; rw [d0, d1]; intro K hK; go_simp; go_at_call 142; go_split_ands; (with_reducible refine Calls.mono (Sub_c _ s3 s6 a3 a6 n3 n6 c3 c6 nq 2 q0 z2.sign (h3.ext hE) h6 (by omega) (by omega)) ?_); rintro e w2 ⟨s9, a9, n9, c9, rfl, e2, h9⟩; exact hK.out _ _ e2 ⟨_, _, _, _, rfl, h9⟩ (FreshIf.no rfl) }) ?_
      exact RgAll.nil
    intro v w7 e7 hΦ _
    have d4 : IsI (max nq 2 + 1) (q0 - z2.sign) (v 4) w7 := hΦ 4 (by decide)
    obtain ⟨s6, a6, n6, c6, v4, h6⟩ := d4
    have b1 := b1.ext e7
    have b2 := b2.ext e7
    have B2 := hid (B2.out.ext e7); have B3 := hid (B3.out.ext e7); have B4 := hid (B4.out.ext e7); have B5 := hid (B5.out.ext e7); have E := E.trans e7
    have h5 := h5.ext e7
    simp only [layL, Act.put, uAx, u0x, u1x, Nat.reduceAdd]
    rw [v4]
    clear v4 hΦ h3
    have F1 := b1.c0; have F2 := b1.c1; have F3 := b1.f0; have F4 := b1.f1
    refine wpAny_ready (rs := [5]) (by kernel_rfl) (by simp) (AllReady.cons rfl (fun K hK => ?_) AllReady.nil); go_simp; refine hK _ _ ?_; clear hK K
    clear F1 F2 F3 F4
    obtain ⟨w8, hW, P1, P2, P3, P4⟩ := b1.put s6 a6 n6 c6; rw [← hW]; clear hW
    have b1 := P1
    have b2 := P2 hne b2
    have B2 := hid (P2 (show w.heap.size ≠ g1 by omega) B2.out); have B3 := hid (P2 (show w.heap.size + 1 ≠ g1 by omega) B3.out); have B4 := hid (P2 (show w.heap.size + 1 + 1 ≠ g1 by omega) B4.out); have B5 := hid (P2 (show w.heap.size + 1 + 1 + 1 ≠ g1 by omega) B5.out); have E := P4 E (by omega)
    have h5 := h5.gr P3
    have h6 := h6.gr P3
    clear P1 P2 P3 P4
    refine wpAny_done (by kernel_rfl) ?_ _
    go_wp2_with fail
    have F1 := b1.c0; have F2 := b1.c1; have F3 := b1.f0; have F4 := b1.f1; have G1 := b2.c0; have G2 := b2.c1; have G3 := b2.f0; have G4 := b2.f1; have H1 := B4.out.c0; have H2 := B4.out.c1; have H3 := B4.out.f0; have H4 := B4.out.f1; have M1 := B5.out.c0; have M2 := B5.out.c1; have M3 := B5.out.f0; have M4 := B5.out.f1; have N1 : g1 ≠ w.heap.size + 1 + 1 := (by omega); have N2 : g1 ≠ w.heap.size + 1 + 1 + 1 := (by omega); have N3 : g2 ≠ w.heap.size + 1 + 1 := (by omega); have N5 : g2 ≠ w.heap.size + 1 + 1 + 1 := (by omega); go_region; all_goals (go_wp2_with fail); all_goals (obtain ⟨X1, hX, P1, P2, P3, P4⟩ := B4.out.put s6 a6 n6 c6; rw [← hX]; clear hX; obtain ⟨X2, hX, Q1, Q2, Q3, Q4⟩ := (P2 (show w.heap.size + 1 + 1 + 1 ≠ w.heap.size + 1 + 1 by omega) B5.out).put s5 a5 n5 c5; rw [← hX]; clear hX; have T4 := Q2 (by omega) P1; have E := Q4 (P4 E (by omega)) (by omega)); all_goals (have T0 := T4.c0; have T1 := T4.c1; have T2 := Q1.c0; have T3 := Q1.c1)
    all_goals refine bodyPost_ret (v := .tuple #[.agg #[.bool s6, .slice a6 n6 c6], .agg #[.bool s5, .slice a5 n5 c5], .int .i64 0]) (by simp [results, Tryz.results213, go_sem, T0, T1, T2, T3]) rfl ⟨_, _, _, _, _, _, _, _, rfl, E.drew, ?_, ?_⟩
    · rw [hM.out.1]; exact (((h6.tight hM.out.2.2.1).gr P3).gr Q3).ext (Ext.refl _).drew
    · rw [hM.out.2.1]; exact (((h5.tight hM.out.2.2.2).gr P3).gr Q3).ext (Ext.refl _).drew
  · rename_i hs4 _ _
    subst hs4
    have hM := hid (dm_pos z1 z2 q0 r0 k1 k2 hM.out I1.out.size I2.out.size (by have := N4.out; simp at this; exact this))
    clear F1 F2 F3 F4
    have F1 := b1.c0; have F2 := b1.c1; have F3 := b1.f0; have F4 := b1.f1; have G1 := b2.c0; have G2 := b2.c1; have G3 := b2.f0; have G4 := b2.f1; have H1 := B4.out.c0; have H2 := B4.out.c1; have H3 := B4.out.f0; have H4 := B4.out.f1; have M1 := B5.out.c0; have M2 := B5.out.c1; have M3 := B5.out.f0; have M4 := B5.out.f1; have N1 : g1 ≠ w.heap.size + 1 + 1 := (by omega); have N2 : g1 ≠ w.heap.size + 1 + 1 + 1 := (by omega); have N3 : g2 ≠ w.heap.size + 1 + 1 := (by omega); have N5 : g2 ≠ w.heap.size + 1 + 1 + 1 := (by omega); go_region; all_goals (go_wp2_with fail); all_goals (obtain ⟨X1, hX, P1, P2, P3, P4⟩ := B4.out.put s3 a3 n3 c3; rw [← hX]; clear hX; obtain ⟨X2, hX, Q1, Q2, Q3, Q4⟩ := (P2 (show w.heap.size + 1 + 1 + 1 ≠ w.heap.size + 1 + 1 by omega) B5.out).put false a4 n4 c4; rw [← hX]; clear hX; have T4 := Q2 (by omega) P1; have E := Q4 (P4 E (by omega)) (by omega)); all_goals (have T0 := T4.c0; have T1 := T4.c1; have T2 := Q1.c0; have T3 := Q1.c1)
    all_goals refine bodyPost_ret (v := .tuple #[.agg #[.bool s3, .slice a3 n3 c3], .agg #[.bool false, .slice a4 n4 c4], .int .i64 0]) (by simp [results, Tryz.results213, go_sem, T0, T1, T2, T3]) rfl ⟨_, _, _, _, _, _, _, _, rfl, E.drew, ?_, ?_⟩
    · rw [hM.out.1]; exact (((h3.tight hM.out.2.2.1).gr P3).gr Q3).ext (Ext.refl _).drew
    · rw [hM.out.2.1]; exact (((h4.tight hM.out.2.2.2).gr P3).gr Q3).ext (Ext.refl _).drew
end Go.Proofs.YtkeikfekkdplgaaGreatDoor
namespace Go.Proofs.YtkeikfekkdplgaaGreatDoor
open Go Go.RowKit

end Go.Proofs.YtkeikfekkdplgaaGreatDoor
namespace Go.Proofs.YtkeikfekkdplgaaGreatDoor
open Go Go.RowKit

set_option maxRecDepth 100000 in
theorem mod_c (w : World) (s1 s2 : Bool) (a1 a2 : Option Addr) (n1 n2 c1 c2 k1 k2 : Nat) (z1 z2 : Int) (h1 : IntAt w k1 s1 a1 n1 c1 z1) (h2 : IntAt w k2 s2 a2 n2 c2 z2) (l1 : k1 ≤ 134217728) (l2 : k2 ≤ 134217728) (hz2 : z2 ≠ 0) :
    Calls Tryz.prog 212 #[.agg #[.bool s1, .slice a1 n1 c1], .agg #[.bool s2, .slice a2 n2 c2]] w (RInt w k2 (z1 % z2)) := by
  obtain ⟨W, hW, K0⟩ := kq21 w s1 s2 a1 a2 n1 n2 c1 c2
  have b2 := K0.bx w.heap.size s1 a1 n1 c1 (by simp)
  have b3 := K0.bx (w.heap.size + 1) s2 a2 n2 c2 (by simp)
  have B4 := hid (show Bx W (w.heap.size + 1 + 1) false none 0 0 from K0.bx (w.heap.size + 2) false none 0 0 (by simp))
  have E := hid K0.ext
  have H := hid (DivMod_c W s1 s2 a1 a2 n1 n2 c1 c2 k1 k2 z1 z2 (h1.ext K0.ext) (h2.ext K0.ext) l1 l2 hz2)
  clear K0 h1 h2 hz2
  go_enter Tryz.func212, Tryz.ntmps212
  go_wp2_with fail
  rw [← hW]
  clear hW
  have F1 := b2.c0; have F2 := b2.c1; have F3 := b2.f0; have F4 := b2.f1
  have G1 := b3.c0; have G2 := b3.c1; have G3 := b3.f0; have G4 := b3.f1
  go_wp2_with fail
  refine Calls.mono H.out ?_
  rintro e w1 ⟨s3, a3, n3, c3, s4, a4, n4, c4, rfl, e1, h3, h4⟩
  have B4 := hid (B4.out.ext e1)
  have E := hid (E.out.trans e1)
  clear F1 F2 F3 F4 G1 G2 G3 G4 H b2 b3
  go_upto_region 2 with (fail)
  obtain ⟨X, hX, b5, b6, e2⟩ := bx2 w1 s3 s4 a3 a4 n3 n4 c3 c4
  rw [← hX]; clear hX
  have b4 := B4.out.ext e2
  have E := E.out.trans e2
  have F1 := b6.c0; have F2 := b6.c1; have F3 := b6.f0; have F4 := b6.f1
  have G1 := b4.c0; have G2 := b4.c1; have G3 := b4.f0; have G4 := b4.f1
  go_wp2_with fail
  obtain ⟨X1, hX, P1, P2, P3, P4⟩ := b4.put s4 a4 n4 c4
  rw [← hX]; clear hX
  have T0 := P1.c0; have T1 := P1.c1
  exact bodyPost_ret (v := .agg #[.bool s4, .slice a4 n4 c4]) (by simp [results, Tryz.results212, go_sem, T0, T1]) rfl ⟨_, _, _, _, rfl, P4 E (by omega), (h4.ext e2).gr P3⟩
end Go.Proofs.YtkeikfekkdplgaaGreatDoor
namespace Go.Proofs.YtkeikfekkdplgaaGreatDoor
open Go Go.RowKit

theorem gcd_step (a b : Int) : Int.gcd b (a % b) = Int.gcd a b := by
  have h := Int.gcd_add_mul_left_right b (a % b) (a / b)
  rw [Int.emod_add_mul_ediv] at h
  rw [← h, Int.gcd_comm]
theorem emod_natAbs_lt (a b : Int) (h : b ≠ 0) : (a % b).natAbs < b.natAbs := by
  have h1 := Int.emod_nonneg a h
  have h2 := Int.emod_lt a h
  omega

/-- What the loop of Gcd keeps. -/
structure GcdInv (w : World) (k : Nat) (g : Nat) (A B : Int) (sA sB : Bool) (aA aB : Option Addr) (nA nB cA cB : Nat) (wr : World) : Prop where
  b2 : Bx wr w.heap.size sA aA nA cA
  b3 : Bx wr (w.heap.size + 1) sB aB nB cB
  b4 : Bx wr (w.heap.size + 1 + 1) false none 0 0
  hA : IntAt wr k sA aA nA cA A
  hB : IntAt wr k sB aB nB cB B
  hg : Int.gcd A B = g
  e : Ext w wr

set_option maxRecDepth 100000 in
theorem Gcd_c (w : World) (s1 s2 : Bool) (a1 a2 : Option Addr) (n1 n2 c1 c2 k1 k2 : Nat) (z1 z2 : Int) (h1 : IntAt w k1 s1 a1 n1 c1 z1) (h2 : IntAt w k2 s2 a2 n2 c2 z2) (l1 : k1 ≤ 134217728) (l2 : k2 ≤ 134217728) :
    Calls Tryz.prog 175 #[.agg #[.bool s1, .slice a1 n1 c1], .agg #[.bool s2, .slice a2 n2 c2]] w (RInt w (max k1 k2) (Int.gcd z1 z2 : Nat)) := by
  obtain ⟨W, hW, K0⟩ := kq21 w s1 s2 a1 a2 n1 n2 c1 c2
  obtain ⟨k, hk⟩ : ∃ k, k = max k1 k2 := ⟨_, rfl⟩
  obtain ⟨g, hg⟩ : ∃ g, g = Int.gcd z1 z2 := ⟨_, rfl⟩
  have kl : k ≤ 134217728 := by omega
  have I0 := hid (show GcdInv w k g z1 z2 s1 s2 a1 a2 n1 n2 c1 c2 W from
    ⟨K0.bx w.heap.size s1 a1 n1 c1 (by simp), K0.bx (w.heap.size + 1) s2 a2 n2 c2 (by simp), K0.bx (w.heap.size + 2) false none 0 0 (by simp),
     (h1.ext K0.ext).mono (by omega), (h2.ext K0.ext).mono (by omega), hg.symm, K0.ext⟩)
  rw [← hk, ← hg]
  clear K0 h1 h2 hk hg l1 l2
  go_enter Tryz.func175, Tryz.ntmps175
  go_wp2_with fail
  rw [← hW]
  clear hW
  go_loopg [] z2.natAbs (fun gk wr => ∃ A B sA sB aA aB nA nB cA cB, B.natAbs = gk ∧ Hid (GcdInv w k g A B sA sB aA aB nA nB cA cB wr))
  case atStart => exact ⟨_, _, _, _, _, _, _, _, _, _, rfl, I0⟩
  case round =>
    clear I0
    obtain ⟨A, B, sA, sB, aA, aB, nA, nB, cA, cB, hgk, I⟩ := hrel
    have hz := I.out.hB.zero_iff
    by_cases hB : nB = 0
    · subst hB
      have hB0 : B = 0 := hz.2 rfl
      subst hB0
      have hgg : g = A.natAbs := by rw [← I.out.hg, Int.gcd_zero_right]
      have hb4 := hid I.out.b4
      have F1 := I.out.b3.c0; have F2 := I.out.b3.c1; have F3 := I.out.b3.f0; have F4 := I.out.b3.f1
      have G1 := I.out.b2.c0; have G2 := I.out.b2.c1; have G3 := I.out.b2.f0; have G4 := I.out.b2.f1
      go_wp2_with fail
      refine Calls.mono (Abs_c _ _ _ _ _ _ _ I.out.hA) ?_
      rintro e w1 ⟨s3, a3, n3, c3, rfl, e1, h3⟩
      have b4 := hb4.out.ext e1
      have E := I.out.e.trans e1
      clear F1 F2 F3 F4 G1 G2 G3 G4
      have F1 := b4.c0; have F2 := b4.c1; have F3 := b4.f0; have F4 := b4.f1
      go_wp2_with fail
      obtain ⟨X1, hX, P1, P2, P3, P4⟩ := b4.put s3 a3 n3 c3
      rw [← hX]; clear hX
      have T0 := P1.c0; have T1 := P1.c1
      exact bodyPost_ret (v := .agg #[.bool s3, .slice a3 n3 c3]) (by simp [results, Tryz.results175, go_sem, T0, T1]) rfl ⟨_, _, _, _, rfl, P4 E (by omega), by rw [hgg]; exact h3.gr P3⟩
    · have hBi : decide ((0 : Int) < (nB : Int)) = true := by simp; omega
      have hBn : B ≠ 0 := fun h => hB (hz.1 h)
      have M1 := gcd_step A B
      have M2 := emod_natAbs_lt A B hBn
      have b2 := hid I.out.b2
      have b3 := hid I.out.b3
      have b4 := hid I.out.b4
      have F1 := I.out.b3.c0; have F2 := I.out.b3.c1; have F3 := I.out.b3.f0; have F4 := I.out.b3.f1
      go_wp2_with fail
      clear F1 F2 F3 F4 hBi
      generalize decide (0 < nB) = b8
      refine wp_region_rg 4 [some 9, some 10, some 11, some 12] [IsV (.agg #[.bool sB, .slice aB nB cB]), IsV (.agg #[.bool sA, .slice aA nA cA]), IsV (.agg #[.bool sB, .slice aB nB cB]), IsI k (A % B)] [] 2 (by kernel_rfl) (by decide) (by kernel_rfl) (by kernel_rfl) (by kernel_rfl) (by kernel_rfl) (by kernel_rfl) ?_ (fun _ h => by cases h) ?_ ?_
      · repeat' (first | exact trivial | exact IsV.stb _ | exact IsI.stb _ _ | exact IsB.stb _ | apply And.intro)
      · refine RgAll.cons (by { intro v w' hE hd; simp only [layL, Act.put, uAx, u0x, u1x, Nat.reduceAdd]; have L0 := Bx.c0 (b3.out.ext hE); have L1 := Bx.c1 (b3.out.ext hE); skip; intro K hK; go_simp; exact hK.out _ _ (Ext.refl _) rfl (FreshIf.no rfl) }) ?_
        refine RgAll.cons (by { intro v w' hE hd; simp only [layL, Act.put, uAx, u0x, u1x, Nat.reduceAdd]; have L0 := Bx.c0 (b2.out.ext hE); have L1 := Bx.c1 (b2.out.ext hE); skip; intro K hK; go_simp; exact hK.out _ _ (Ext.refl _) rfl (FreshIf.no rfl) }) ?_
        refine RgAll.cons (by { intro v w' hE hd; simp only [layL, Act.put, uAx, u0x, u1x, Nat.reduceAdd]; have L0 := Bx.c0 (b3.out.ext hE); have L1 := Bx.c1 (b3.out.ext hE); skip; intro K hK; go_simp; exact hK.out _ _ (Ext.refl _) rfl (FreshIf.no rfl) }) ?_
        refine RgAll.cons (by { intro v w' hE hd; simp only [layL, Act.put, uAx, u0x, u1x, Nat.reduceAdd]; have d0 : v 1 = .agg #[.bool sA, .slice aA nA cA] := hd 1 (by kernel_rfl); have d1 : v 2 = .agg #[.bool sB, .slice aB nB cB] := hd 2 (by kernel_rfl); rw [d0, d1]; intro K hK; go_simp; go_at_call 212; go_split_ands; (with_reducible refine Calls.mono (mod_c _ sA sB aA aB nA nB cA cB k k A B (I.out.hA.ext hE) (I.out.hB.ext hE) kl kl hBn) ?_); rintro e w2 ⟨s9, a9, n9, c9, rfl, e2, h9⟩; exact hK.out _ _ e2 ⟨_, _, _, _, rfl, h9⟩ (FreshIf.no rfl) }) ?_
        exact RgAll.nil
      intro v w1 e1 hΦ _
      have v0 : v 0 = .agg #[.bool sB, .slice aB nB cB] := hΦ 0 (by decide)
      have d3 : IsI k (A % B) (v 3) w1 := hΦ 3 (by decide)
      obtain ⟨s5, a5, n5, c5, v3, h5⟩ := d3
      have b2 := b2.out.ext e1
      have b3 := b3.out.ext e1
      have b4 := b4.out.ext e1
      have E := I.out.e.trans e1
      have hB := I.out.hB.ext e1
      have hg := I.out.hg
      simp only [layL, Act.put, uAx, u0x, u1x, Nat.reduceAdd]
      rw [v0, v3]
      clear v0 v3 hΦ I hz
      have F1 := b2.c0; have F2 := b2.c1; have F3 := b2.f0; have F4 := b2.f1
      refine wpAny_ready (rs := [4]) (by kernel_rfl) (by simp) (AllReady.cons rfl (fun K hK => ?_) AllReady.nil); go_simp; refine hK _ _ ?_; clear hK K
      clear F1 F2 F3 F4
      obtain ⟨w2, hW, P1, P2, P3, P4⟩ := b2.put sB aB nB cB; rw [← hW]; clear hW
      have b2 := P1
      have b3 := P2 (show w.heap.size + 1 ≠ w.heap.size by omega) b3
      have b4 := P2 (show w.heap.size + 1 + 1 ≠ w.heap.size by omega) b4
      have E := P4 E (by omega)
      have hB := hB.gr P3
      have h5 := h5.gr P3
      clear P1 P2 P3 P4
      have F1 := b3.c0; have F2 := b3.c1; have F3 := b3.f0; have F4 := b3.f1
      refine wpAny_ready (rs := [5]) (by kernel_rfl) (by simp) (AllReady.cons rfl (fun K hK => ?_) AllReady.nil); go_simp; refine hK _ _ ?_; clear hK K
      clear F1 F2 F3 F4
      obtain ⟨w3, hW, P1, P2, P3, P4⟩ := b3.put s5 a5 n5 c5; rw [← hW]; clear hW
      have b3 := P1
      have b2 := P2 (show w.heap.size ≠ w.heap.size + 1 by omega) b2
      have b4 := P2 (show w.heap.size + 1 + 1 ≠ w.heap.size + 1 by omega) b4
      have E := P4 E (by omega)
      have hB := hB.gr P3
      have h5 := h5.gr P3
      clear P1 P2 P3 P4
      have I1 := hid (show GcdInv w k g B (A % B) sB s5 aB a5 nB n5 cB c5 w3 from ⟨b2, b3, b4, hB, h5, M1.trans hg, E⟩)
      clear b2 b3 b4 E hB h5
      refine wpAny_done (by kernel_rfl) ?_ _
      go_wp2_with fail
      go_roundg (A % B).natAbs
      case measure => omega
      case rel => exact ⟨_, _, _, _, _, _, _, _, _, _, rfl, I1⟩
end Go.Proofs.YtkeikfekkdplgaaGreatDoor
