/-
  Integers of package integer: Root and Sqrt, as facts. Every integer of at most 2^20 words. (Printed in part by wip/gen/sqrt.py.)
-/
import Derived.Test.YtpflfagjkmeeiaaDoorRoot
namespace Go.Proofs.YtpflfagjkmeeiaaDoor
open Go Go.RowKit

theorem IsRoot.le {m k r : Nat} (h : IsRoot m k r) (hk : 1 ≤ k) : r ≤ m := by
  rcases Nat.eq_zero_or_pos r with h0 | h0
  · omega
  · have h1 : r ^ 1 ≤ r ^ k := Nat.pow_le_pow_right h0 hk
    rw [Nat.pow_one] at h1
    have := h.1; omega
theorem bitLen_le (m k : Nat) (h : m < 4294967296 ^ k) : bitLen m ≤ 32 * k := by
  rcases Nat.eq_zero_or_pos m with h0 | h0
  · subst h0; simp [bitLen]
  · obtain ⟨b, hb, h1, _⟩ := bitLen_bounds m (by omega)
    rw [show (4294967296 : Nat) = 2 ^ 32 from rfl, ← Nat.pow_mul] at h
    have h2 : 2 ^ b < 2 ^ (32 * k) := by omega
    have := (Nat.pow_lt_pow_iff_right (by decide : 1 < 2)).1 h2
    omega

theorem Rootneg_f {k1 : Nat} {z1 : Int} {x : Value} {w : World} (hx : IsI k1 z1 x w) (l1 : k1 ≤ 1048576) (k : Int) (h : z1 < 0 ∨ k < 1) :
    Calls Tryd.prog 21 #[x, .int .i64 k] w (Ret w (IsT2 (IsI 0 0) (IsV (.int .i64 1)))) := by
  obtain ⟨s, a, n, c, rfl, h1⟩ := hx
  exact Root_neg w s a n c k1 z1 h1 l1 k (h.imp h1.neg_iff.1 id)
theorem Root_f {k1 : Nat} {z1 : Int} {x : Value} {w : World} (hx : IsI k1 z1 x w) (l1 : k1 ≤ 1048576) (h0 : 0 ≤ z1) (k : Nat) (hk : 1 ≤ k) (hhi : k ≤ 9223372036854775807) (r : Nat) (hr : IsRoot z1.natAbs k r) :
    Calls Tryd.prog 21 #[x, .int .i64 k] w (Ret w (IsT2 (IsI k1 (r : Int)) (IsV (.int .i64 0)))) := by
  obtain ⟨s, a, n, c, rfl, h1⟩ := hx
  have hsz := h1.size
  have hle := hr.le hk
  have hrb : (r : Int).natAbs < 4294967296 ^ k1 := by rw [Int.natAbs_natCast]; omega
  have hs : s = false := by
    cases s
    · rfl
    · have := h1.neg_iff.2 rfl; omega
  subst hs
  by_cases hc : z1 = 0 ∨ k = 1
  · have hz : z1 = (r : Int) := by
      rcases hc with rfl | rfl
      · have := hle; simp at this; omega
      · have h2 := hr.1; have h3 := hr.2; rw [Nat.pow_one] at h2 h3; omega
    rw [← hz]
    exact Root_self w a n c k1 z1 h1 l1 k hk hc hhi
  · have hz : 0 < z1 := by
      rcases Int.lt_or_eq_of_le h0 with h | h
      · exact h
      · exact absurd (Or.inl h.symm) hc
    have hk2 : 2 ≤ k := by
      rcases Nat.lt_or_ge k 2 with h | h
      · exact absurd (Or.inr (by omega)) hc
      · exact h
    have hb := bitLen_le _ _ hsz
    by_cases hkn : bitLen z1.natAbs ≤ k
    · have h1r : IsRoot z1.natAbs k 1 := by
        refine ⟨by rw [Nat.one_pow]; omega, ?_⟩
        obtain ⟨b, h2, _, h4⟩ := bitLen_bounds z1.natAbs (by omega)
        exact Nat.lt_of_lt_of_le h4 (Nat.pow_le_pow_right (by decide) (by omega))
      have := h1r.uniq hr
      subst this
      refine Calls.mono (Root_one w a n c k1 z1 h1 l1 k hk2 (by omega) hkn hhi) fun _ _ h => h.mono fun _ _ ⟨u, v, h2, h3, h4⟩ => ⟨u, v, h2, ?_, h4⟩
      exact h3.tight hrb
    · obtain ⟨j, rfl⟩ : ∃ j, k = j + 1 := ⟨k - 1, by omega⟩
      refine Calls.mono (Root_main w a n c k1 z1 h1 l1 j _ _ _ (by omega) hz rfl (by omega) (by omega) rfl rfl) fun _ _ ⟨r', h2, h⟩ => ?_
      have := h2.uniq hr
      subst this
      exact h.mono fun _ _ ⟨u, v, h2, h3, h4⟩ => ⟨u, v, h2, h3.tight hrb, h4⟩

set_option maxRecDepth 100000 in
theorem Sqrt_c (w : World) (s1 : Bool) (a1 : Option Addr) (n1 c1 k1 : Nat) (z1 : Int) (h1 : IntAt w k1 s1 a1 n1 c1 z1) (l1 : k1 ≤ 1048576) (h0 : 0 ≤ z1) (r : Nat) (hr : IsRoot z1.natAbs 2 r) :
    Calls Tryd.prog 24 #[.agg #[.bool s1, .slice a1 n1 c1]] w (Ret w (IsT3 (IsI k1 (r : Int)) (IsI k1 (z1 - (r : Int) * (r : Int))) (IsV (.int .i64 0)))) := by
  have H0 := hid h0
  have HR := hid hr
  have HS := hid (show (z1 - (r : Int) * (r : Int)).natAbs < 4294967296 ^ k1 by
    have h2 := h1.size
    have h3 := hr.1
    rw [Nat.pow_two] at h3
    have h4 : (r : Int) * (r : Int) = ((r * r : Nat) : Int) := by simp
    rw [h4]
    generalize r * r = q at *
    omega)
  clear h0 hr
  obtain ⟨W, hW, S⟩ : ∃ W, W = ((w.alloc (.cells #[.bool s1, .slice a1 n1 c1] 27)).alloc (.cells #[.bool false, .slice none 0 0] 27)).alloc (.cells #[.bool false, .slice none 0 0] 27) ∧ St w W [(w.heap.size + 1 + 1, IsI 0 0), (w.heap.size + 1, IsI 0 0), (w.heap.size, IsI k1 z1)] := ⟨_, rfl, ((((St.start w).new' (w.heap.size) (by simp) s1 a1 n1 c1 27 (IsI k1 z1) (IsI.gstb _ _) ⟨_, _, _, _, rfl, h1⟩).new' (w.heap.size + 1) (by simp) false none 0 0 27 (IsI 0 0) (IsI.gstb _ _) (IsI.nil _ _)).new' (w.heap.size + 1 + 1) (by simp) false none 0 0 27 (IsI 0 0) (IsI.gstb _ _) (IsI.nil _ _))⟩
  clear h1
  go_enter Tryd.func24, Tryd.ntmps24
  go_upto_region 1 with (fail)
  rw [← hW]
  clear hW
  have hl := hid S.lt; have hw := S.ext.size
  refine wp_region_rgs 6 [some 8, some 9, some 7, some 10, some 11, some 5] [IsI k1 z1, IsT2 (IsI k1 ((r : Int))) (IsV (.int .i64 0)), IsT2 (IsI k1 ((r : Int))) (IsV (.int .i64 0)), IsI k1 ((r : Int)), IsV (.int .i64 0), IsB W] [5] (by decide) (by kernel_rfl) (by kernel_rfl) (by kernel_rfl) ?_ ?_ ?_ ?_
  · repeat' (first | exact trivial | exact IsV.stb _ | exact IsI.stb _ _ | exact IsB.stb _ | exact IsR.stb _ _ | exact IsMag.stb _ _ | exact IsPos.stb | apply IsT3.stb | apply IsT2.stb | apply And.intro)
  · intro i hi; simp only [List.mem_cons, List.not_mem_nil, or_false] at hi; subst hi; exact IsB.box _
  · refine RgAll.cons (by { intro v w' hE hd; simp only [layL, Act.put, List.setIfInBounds_toArray, List.set_cons_zero, List.set_cons_succ, Nat.reduceAdd]; obtain ⟨s8, a8, n8, c8, b8, h8⟩ := (S.mono hE).at 2 (w.heap.size) (IsI k1 z1) rfl; have L0 := b8.c0; have L1 := b8.c1; skip; intro K hK; go_simp; exact hK.out _ _ (Ext.refl _) h8 (FreshIf.no rfl) }) ?_
    refine RgAll.cons (by { intro v w' hE hd; simp only [layL, Act.put, List.setIfInBounds_toArray, List.set_cons_zero, List.set_cons_succ, Nat.reduceAdd]; have d0 : (IsI k1 z1) (v 0) w' := hd 0 (by kernel_rfl); skip; intro K hK; go_simp; go_at_call 21; go_split_ands; (with_reducible refine Calls.mono (Root_f d0 l1 H0.out 2 (by decide) (by decide) r HR.out) ?_); rintro e w2 ⟨x, rfl, e2, hx⟩; exact hK.out _ _ e2 hx (FreshIf.no rfl) }) ?_
    refine RgAll.cons (by { intro v w' hE hd; simp only [layL, Act.put, List.setIfInBounds_toArray, List.set_cons_zero, List.set_cons_succ, Nat.reduceAdd]; have d0 : (IsT2 (IsI k1 ((r : Int))) (IsV (.int .i64 0))) (v 1) w' := hd 1 (by kernel_rfl); skip; intro K hK; go_simp; exact hK.out _ _ (Ext.refl _) d0 (FreshIf.no rfl) }) ?_
    refine RgAll.cons (by { intro v w' hE hd; simp only [layL, Act.put, List.setIfInBounds_toArray, List.set_cons_zero, List.set_cons_succ, Nat.reduceAdd]; have d0 : (IsT2 (IsI k1 ((r : Int))) (IsV (.int .i64 0))) (v 2) w' := hd 2 (by kernel_rfl); obtain ⟨x0, x1, z0, y0, y1⟩ := d0; rw [z0]; intro K hK; go_simp; exact hK.out _ _ (Ext.refl _) y0 (FreshIf.no rfl) }) ?_
    refine RgAll.cons (by { intro v w' hE hd; simp only [layL, Act.put, List.setIfInBounds_toArray, List.set_cons_zero, List.set_cons_succ, Nat.reduceAdd]; have d0 : (IsT2 (IsI k1 ((r : Int))) (IsV (.int .i64 0))) (v 2) w' := hd 2 (by kernel_rfl); obtain ⟨x0, x1, z0, y0, y1⟩ := d0; rw [z0]; intro K hK; go_simp; exact hK.out _ _ (Ext.refl _) y1 (FreshIf.no rfl) }) ?_
    refine RgAll.cons (by { intro v w' hE hd; simp only [layL, Act.put, List.setIfInBounds_toArray, List.set_cons_zero, List.set_cons_succ, Nat.reduceAdd]; skip; skip; intro K hK; go_simp; refine hK.out _ _ ((Ext.refl _).alloc _) ⟨_, rfl, hE.size, Bx.new _ _ _ _ _⟩ FreshIf.yes }) ?_
    exact RgAll.nil
  intro v W1 e1 hΦ _
  replace S := S.mono e1
  obtain ⟨s10, a10, n10, c10, v3, h10⟩ := (hΦ 3 (by decide) : IsI k1 ((r : Int)) (v 3) W1)
  have v4 : v 4 = .int .i64 0 := hΦ 4 (by decide)
  obtain ⟨g5, v5, q2, b1⟩ := (hΦ 5 (by decide) : IsB W (v 5) W1)
  replace S := S.addN (Apart.old hl.out q2) (Nat.le_trans hw q2) b1
  clear b1
  simp only [layL, Act.put, List.setIfInBounds_toArray, List.set_cons_zero, List.set_cons_succ, Nat.reduceAdd]
  rw [v3, v4, v5]
  clear v3 v4 v5
  clear hΦ
  clear hl hw
  clear e1
  obtain ⟨s8, a8, n8, c8, b8, _⟩ := S.at 0 (g5) (IsI 0 0) rfl; have F1 := b8.c0; have F2 := b8.c1; have F3 := b8.f0; have F4 := b8.f1
  refine wpList_step fun K hK => ?_; go_simp; refine hK _ _ ?_; clear hK K
  clear F1 F2 F3 F4 b8
  obtain ⟨W2, hW, S2, G2, _⟩ := S.put 0 (g5) (IsI 0 0) (IsI k1 ((r : Int))) rfl s10 a10 n10 c10 (IsI.gstb _ _) ⟨_, _, _, _, rfl, h10⟩
  rw [← hW]; clear hW S
  have S : St w W2 [(g5, IsI k1 ((r : Int))), (w.heap.size + 1 + 1, IsI 0 0), (w.heap.size + 1, IsI 0 0), (w.heap.size, IsI k1 z1)] := S2; clear S2 G2
  clear h10
  refine wpList_step fun K hK => ?_; go_simp; refine hK _ _ ?_; clear hK K
  refine wpList_nil ?_
  go_upto_region 4 with (fail)
  refine wp_region_rg 6 [some 17, some 18, some 19, some 20, some 21, some 22] [IsI k1 ((r : Int)), IsI k1 z1, IsI k1 ((r : Int)), IsI k1 ((r : Int)), IsI (k1 + k1) ((r : Int) * (r : Int)), IsI k1 (z1 - (r : Int) * (r : Int))] [] 3 (by kernel_rfl) (by decide) (by kernel_rfl) (by kernel_rfl) (by kernel_rfl) (by kernel_rfl) (by kernel_rfl) ?_ ?_ ?_ ?_
  · repeat' (first | exact trivial | exact IsV.stb _ | exact IsI.stb _ _ | exact IsB.stb _ | exact IsR.stb _ _ | exact IsMag.stb _ _ | exact IsPos.stb | apply IsT3.stb | apply IsT2.stb | apply And.intro)
  · exact (fun _ h => by cases h)
  · refine RgAll.cons (by { intro v w' hE hd; simp only [layL, Act.put, List.setIfInBounds_toArray, List.set_cons_zero, List.set_cons_succ, Nat.reduceAdd]; obtain ⟨s8, a8, n8, c8, b8, h8⟩ := (S.mono hE).at 0 (g5) (IsI k1 ((r : Int))) rfl; have L0 := b8.c0; have L1 := b8.c1; skip; intro K hK; go_simp; exact hK.out _ _ (Ext.refl _) h8 (FreshIf.no rfl) }) ?_
    refine RgAll.cons (by { intro v w' hE hd; simp only [layL, Act.put, List.setIfInBounds_toArray, List.set_cons_zero, List.set_cons_succ, Nat.reduceAdd]; obtain ⟨s8, a8, n8, c8, b8, h8⟩ := (S.mono hE).at 3 (w.heap.size) (IsI k1 z1) rfl; have L0 := b8.c0; have L1 := b8.c1; skip; intro K hK; go_simp; exact hK.out _ _ (Ext.refl _) h8 (FreshIf.no rfl) }) ?_
    refine RgAll.cons (by { intro v w' hE hd; simp only [layL, Act.put, List.setIfInBounds_toArray, List.set_cons_zero, List.set_cons_succ, Nat.reduceAdd]; obtain ⟨s8, a8, n8, c8, b8, h8⟩ := (S.mono hE).at 0 (g5) (IsI k1 ((r : Int))) rfl; have L0 := b8.c0; have L1 := b8.c1; skip; intro K hK; go_simp; exact hK.out _ _ (Ext.refl _) h8 (FreshIf.no rfl) }) ?_
    refine RgAll.cons (by { intro v w' hE hd; simp only [layL, Act.put, List.setIfInBounds_toArray, List.set_cons_zero, List.set_cons_succ, Nat.reduceAdd]; obtain ⟨s8, a8, n8, c8, b8, h8⟩ := (S.mono hE).at 0 (g5) (IsI k1 ((r : Int))) rfl; have L0 := b8.c0; have L1 := b8.c1; skip; intro K hK; go_simp; exact hK.out _ _ (Ext.refl _) h8 (FreshIf.no rfl) }) ?_
    refine RgAll.cons (by { intro v w' hE hd; simp only [layL, Act.put, List.setIfInBounds_toArray, List.set_cons_zero, List.set_cons_succ, Nat.reduceAdd]; have d0 : (IsI k1 ((r : Int))) (v 2) w' := hd 2 (by kernel_rfl); have d1 : (IsI k1 ((r : Int))) (v 3) w' := hd 3 (by kernel_rfl); skip; intro K hK; go_simp; go_at_call 13; go_split_ands; (with_reducible refine Calls.mono (Mul_f d0 d1 (by omega) (by omega)) ?_); rintro e w2 ⟨x, rfl, e2, hx⟩; exact hK.out _ _ e2 hx (FreshIf.no rfl) }) ?_
    refine RgAll.cons (by { intro v w' hE hd; simp only [layL, Act.put, List.setIfInBounds_toArray, List.set_cons_zero, List.set_cons_succ, Nat.reduceAdd]; have d0 : (IsI k1 z1) (v 1) w' := hd 1 (by kernel_rfl); have d1 : (IsI (k1 + k1) ((r : Int) * (r : Int))) (v 4) w' := hd 4 (by kernel_rfl); skip; intro K hK; go_simp; go_at_call 22; go_split_ands; (with_reducible refine Calls.mono (Calls.mono (Sub_f d0 d1 (by omega) (by omega)) fun _ _ h => h.mono fun _ _ h => h.tight (k' := k1) HS.out) ?_); rintro e w2 ⟨x, rfl, e2, hx⟩; exact hK.out _ _ e2 hx (FreshIf.no rfl) }) ?_
    exact RgAll.nil
  intro v W3 e1 hΦ _
  replace S := S.mono e1
  obtain ⟨s17, a17, n17, c17, v0, h17⟩ := (hΦ 0 (by decide) : IsI k1 ((r : Int)) (v 0) W3)
  obtain ⟨s22, a22, n22, c22, v5, h22⟩ := (hΦ 5 (by decide) : IsI k1 (z1 - (r : Int) * (r : Int)) (v 5) W3)
  simp only [layL, Act.put, List.setIfInBounds_toArray, List.set_cons_zero, List.set_cons_succ, Nat.reduceAdd]
  rw [v0, v5]
  clear v0 v5
  clear hΦ
  clear e1
  obtain ⟨s8, a8, n8, c8, b8, _⟩ := S.at 2 (w.heap.size + 1) (IsI 0 0) rfl; have F1 := b8.c0; have F2 := b8.c1; have F3 := b8.f0; have F4 := b8.f1
  refine wpAny_ready (rs := [6]) (by kernel_rfl) (by simp) (AllReady.cons rfl (fun K hK => ?_) AllReady.nil); go_simp; refine hK _ _ ?_; clear hK K
  clear F1 F2 F3 F4 b8
  obtain ⟨W4, hW, S2, G2, _⟩ := S.put 2 (w.heap.size + 1) (IsI 0 0) (IsI k1 ((r : Int))) rfl s17 a17 n17 c17 (IsI.gstb _ _) ⟨_, _, _, _, rfl, h17⟩
  rw [← hW]; clear hW S
  replace h22 := h22.gr G2
  have S : St w W4 [(g5, IsI k1 ((r : Int))), (w.heap.size + 1 + 1, IsI 0 0), (w.heap.size + 1, IsI k1 ((r : Int))), (w.heap.size, IsI k1 z1)] := S2; clear S2 G2
  clear h17
  obtain ⟨s8, a8, n8, c8, b8, _⟩ := S.at 1 (w.heap.size + 1 + 1) (IsI 0 0) rfl; have F1 := b8.c0; have F2 := b8.c1; have F3 := b8.f0; have F4 := b8.f1
  refine wpAny_ready (rs := [7]) (by kernel_rfl) (by simp) (AllReady.cons rfl (fun K hK => ?_) AllReady.nil); go_simp; refine hK _ _ ?_; clear hK K
  clear F1 F2 F3 F4 b8
  obtain ⟨W5, hW, S2, G2, _⟩ := S.put 1 (w.heap.size + 1 + 1) (IsI 0 0) (IsI k1 (z1 - (r : Int) * (r : Int))) rfl s22 a22 n22 c22 (IsI.gstb _ _) ⟨_, _, _, _, rfl, h22⟩
  rw [← hW]; clear hW S
  have S : St w W5 [(g5, IsI k1 ((r : Int))), (w.heap.size + 1 + 1, IsI k1 (z1 - (r : Int) * (r : Int))), (w.heap.size + 1, IsI k1 ((r : Int))), (w.heap.size, IsI k1 z1)] := S2; clear S2 G2
  clear h22
  refine wpAny_ready (rs := [8]) (by kernel_rfl) (by simp) (AllReady.cons rfl (fun K hK => ?_) AllReady.nil); go_simp; refine hK _ _ ?_; clear hK K
  refine wpAny_done (by kernel_rfl) ?_ _
  go_wp2_with fail
  obtain ⟨rs0, ra0, rn0, rc0, rb0, rh0⟩ := S.at 2 (w.heap.size + 1) (IsI k1 ((r : Int))) rfl; have T0 := rb0.c0; have U0 := rb0.c1
  obtain ⟨rs1, ra1, rn1, rc1, rb1, rh1⟩ := S.at 1 (w.heap.size + 1 + 1) (IsI k1 (z1 - (r : Int) * (r : Int))) rfl; have T1 := rb1.c0; have U1 := rb1.c1
  exact bodyPost_ret (v := .tuple #[.agg #[.bool rs0, .slice ra0 rn0 rc0], .agg #[.bool rs1, .slice ra1 rn1 rc1], .int .i64 0]) (by simp [results, Tryd.results24, go_sem, T0, U0, T1, U1]) rfl (⟨_, rfl, S.ext, _, _, _, rfl, rh0, rh1, rfl⟩)

set_option maxRecDepth 100000 in
theorem Sqrtneg_c (w : World) (s1 : Bool) (a1 : Option Addr) (n1 c1 k1 : Nat) (z1 : Int) (h1 : IntAt w k1 s1 a1 n1 c1 z1) (l1 : k1 ≤ 1048576) (h0 : z1 < 0) :
    Calls Tryd.prog 24 #[.agg #[.bool s1, .slice a1 n1 c1]] w (Ret w (IsT3 (IsI 0 0) (IsI 0 0) (IsV (.int .i64 1)))) := by
  have H0 := hid h0
  clear h0
  obtain ⟨W, hW, S⟩ : ∃ W, W = ((w.alloc (.cells #[.bool s1, .slice a1 n1 c1] 27)).alloc (.cells #[.bool false, .slice none 0 0] 27)).alloc (.cells #[.bool false, .slice none 0 0] 27) ∧ St w W [(w.heap.size + 1 + 1, IsI 0 0), (w.heap.size + 1, IsI 0 0), (w.heap.size, IsI k1 z1)] := ⟨_, rfl, ((((St.start w).new' (w.heap.size) (by simp) s1 a1 n1 c1 27 (IsI k1 z1) (IsI.gstb _ _) ⟨_, _, _, _, rfl, h1⟩).new' (w.heap.size + 1) (by simp) false none 0 0 27 (IsI 0 0) (IsI.gstb _ _) (IsI.nil _ _)).new' (w.heap.size + 1 + 1) (by simp) false none 0 0 27 (IsI 0 0) (IsI.gstb _ _) (IsI.nil _ _))⟩
  clear h1
  go_enter Tryd.func24, Tryd.ntmps24
  go_upto_region 1 with (fail)
  rw [← hW]
  clear hW
  have hl := hid S.lt; have hw := S.ext.size
  refine wp_region_rgs 6 [some 8, some 9, some 7, some 10, some 11, some 5] [IsI k1 z1, IsT2 (IsI 0 0) (IsV (.int .i64 1)), IsT2 (IsI 0 0) (IsV (.int .i64 1)), IsI 0 0, IsV (.int .i64 1), IsB W] [5] (by decide) (by kernel_rfl) (by kernel_rfl) (by kernel_rfl) ?_ ?_ ?_ ?_
  · repeat' (first | exact trivial | exact IsV.stb _ | exact IsI.stb _ _ | exact IsB.stb _ | exact IsR.stb _ _ | exact IsMag.stb _ _ | exact IsPos.stb | apply IsT3.stb | apply IsT2.stb | apply And.intro)
  · intro i hi; simp only [List.mem_cons, List.not_mem_nil, or_false] at hi; subst hi; exact IsB.box _
  · refine RgAll.cons (by { intro v w' hE hd; simp only [layL, Act.put, List.setIfInBounds_toArray, List.set_cons_zero, List.set_cons_succ, Nat.reduceAdd]; obtain ⟨s8, a8, n8, c8, b8, h8⟩ := (S.mono hE).at 2 (w.heap.size) (IsI k1 z1) rfl; have L0 := b8.c0; have L1 := b8.c1; skip; intro K hK; go_simp; exact hK.out _ _ (Ext.refl _) h8 (FreshIf.no rfl) }) ?_
    refine RgAll.cons (by { intro v w' hE hd; simp only [layL, Act.put, List.setIfInBounds_toArray, List.set_cons_zero, List.set_cons_succ, Nat.reduceAdd]; have d0 : (IsI k1 z1) (v 0) w' := hd 0 (by kernel_rfl); skip; intro K hK; go_simp; go_at_call 21; go_split_ands; (with_reducible refine Calls.mono (Rootneg_f d0 l1 2 (Or.inl H0.out)) ?_); rintro e w2 ⟨x, rfl, e2, hx⟩; exact hK.out _ _ e2 hx (FreshIf.no rfl) }) ?_
    refine RgAll.cons (by { intro v w' hE hd; simp only [layL, Act.put, List.setIfInBounds_toArray, List.set_cons_zero, List.set_cons_succ, Nat.reduceAdd]; have d0 : (IsT2 (IsI 0 0) (IsV (.int .i64 1))) (v 1) w' := hd 1 (by kernel_rfl); skip; intro K hK; go_simp; exact hK.out _ _ (Ext.refl _) d0 (FreshIf.no rfl) }) ?_
    refine RgAll.cons (by { intro v w' hE hd; simp only [layL, Act.put, List.setIfInBounds_toArray, List.set_cons_zero, List.set_cons_succ, Nat.reduceAdd]; have d0 : (IsT2 (IsI 0 0) (IsV (.int .i64 1))) (v 2) w' := hd 2 (by kernel_rfl); obtain ⟨x0, x1, z0, y0, y1⟩ := d0; rw [z0]; intro K hK; go_simp; exact hK.out _ _ (Ext.refl _) y0 (FreshIf.no rfl) }) ?_
    refine RgAll.cons (by { intro v w' hE hd; simp only [layL, Act.put, List.setIfInBounds_toArray, List.set_cons_zero, List.set_cons_succ, Nat.reduceAdd]; have d0 : (IsT2 (IsI 0 0) (IsV (.int .i64 1))) (v 2) w' := hd 2 (by kernel_rfl); obtain ⟨x0, x1, z0, y0, y1⟩ := d0; rw [z0]; intro K hK; go_simp; exact hK.out _ _ (Ext.refl _) y1 (FreshIf.no rfl) }) ?_
    refine RgAll.cons (by { intro v w' hE hd; simp only [layL, Act.put, List.setIfInBounds_toArray, List.set_cons_zero, List.set_cons_succ, Nat.reduceAdd]; skip; skip; intro K hK; go_simp; refine hK.out _ _ ((Ext.refl _).alloc _) ⟨_, rfl, hE.size, Bx.new _ _ _ _ _⟩ FreshIf.yes }) ?_
    exact RgAll.nil
  intro v W1 e1 hΦ _
  replace S := S.mono e1
  obtain ⟨s10, a10, n10, c10, v3, h10⟩ := (hΦ 3 (by decide) : IsI 0 0 (v 3) W1)
  have v4 : v 4 = .int .i64 1 := hΦ 4 (by decide)
  obtain ⟨g5, v5, q2, b1⟩ := (hΦ 5 (by decide) : IsB W (v 5) W1)
  replace S := S.addN (Apart.old hl.out q2) (Nat.le_trans hw q2) b1
  clear b1
  simp only [layL, Act.put, List.setIfInBounds_toArray, List.set_cons_zero, List.set_cons_succ, Nat.reduceAdd]
  rw [v3, v4, v5]
  clear v3 v4 v5
  clear hΦ
  clear hl hw
  clear e1
  obtain ⟨s8, a8, n8, c8, b8, _⟩ := S.at 0 (g5) (IsI 0 0) rfl; have F1 := b8.c0; have F2 := b8.c1; have F3 := b8.f0; have F4 := b8.f1
  refine wpList_step fun K hK => ?_; go_simp; refine hK _ _ ?_; clear hK K
  clear F1 F2 F3 F4 b8
  obtain ⟨W2, hW, S2, G2, _⟩ := S.put 0 (g5) (IsI 0 0) (IsI 0 0) rfl s10 a10 n10 c10 (IsI.gstb _ _) ⟨_, _, _, _, rfl, h10⟩
  rw [← hW]; clear hW S
  have S : St w W2 [(g5, IsI 0 0), (w.heap.size + 1 + 1, IsI 0 0), (w.heap.size + 1, IsI 0 0), (w.heap.size, IsI k1 z1)] := S2; clear S2 G2
  clear h10
  refine wpList_step fun K hK => ?_; go_simp; refine hK _ _ ?_; clear hK K
  refine wpList_nil ?_
  go_upto_region 3 with (fail)
  refine wp_region_rgs 3 [some 14, some 15, some 16] [IsI 0 0, IsI 0 0, IsV (.int .i64 1)] [] (by decide) (by kernel_rfl) (by kernel_rfl) (by kernel_rfl) ?_ ?_ ?_ ?_
  · repeat' (first | exact trivial | exact IsV.stb _ | exact IsI.stb _ _ | exact IsB.stb _ | exact IsR.stb _ _ | exact IsMag.stb _ _ | exact IsPos.stb | apply IsT3.stb | apply IsT2.stb | apply And.intro)
  · exact (fun _ h => by cases h)
  · refine RgAll.cons (by { intro v w' hE hd; simp only [layL, Act.put, List.setIfInBounds_toArray, List.set_cons_zero, List.set_cons_succ, Nat.reduceAdd]; skip; skip; intro K hK; go_simp; exact hK.out _ _ (Ext.refl _) (IsI.nil _ _) (FreshIf.no rfl) }) ?_
    refine RgAll.cons (by { intro v w' hE hd; simp only [layL, Act.put, List.setIfInBounds_toArray, List.set_cons_zero, List.set_cons_succ, Nat.reduceAdd]; skip; skip; intro K hK; go_simp; exact hK.out _ _ (Ext.refl _) (IsI.nil _ _) (FreshIf.no rfl) }) ?_
    refine RgAll.cons (by { intro v w' hE hd; simp only [layL, Act.put, List.setIfInBounds_toArray, List.set_cons_zero, List.set_cons_succ, Nat.reduceAdd]; skip; skip; intro K hK; go_simp; exact hK.out _ _ (Ext.refl _) rfl (FreshIf.no rfl) }) ?_
    exact RgAll.nil
  intro v W3 e1 hΦ _
  replace S := S.mono e1
  obtain ⟨s14, a14, n14, c14, v0, h14⟩ := (hΦ 0 (by decide) : IsI 0 0 (v 0) W3)
  obtain ⟨s15, a15, n15, c15, v1, h15⟩ := (hΦ 1 (by decide) : IsI 0 0 (v 1) W3)
  have v2 : v 2 = .int .i64 1 := hΦ 2 (by decide)
  simp only [layL, Act.put, List.setIfInBounds_toArray, List.set_cons_zero, List.set_cons_succ, Nat.reduceAdd]
  rw [v0, v1, v2]
  clear v0 v1 v2
  clear hΦ
  clear e1
  obtain ⟨s8, a8, n8, c8, b8, _⟩ := S.at 2 (w.heap.size + 1) (IsI 0 0) rfl; have F1 := b8.c0; have F2 := b8.c1; have F3 := b8.f0; have F4 := b8.f1
  refine wpList_step fun K hK => ?_; go_simp; refine hK _ _ ?_; clear hK K
  clear F1 F2 F3 F4 b8
  obtain ⟨W4, hW, S2, G2, _⟩ := S.put 2 (w.heap.size + 1) (IsI 0 0) (IsI 0 0) rfl s14 a14 n14 c14 (IsI.gstb _ _) ⟨_, _, _, _, rfl, h14⟩
  rw [← hW]; clear hW S
  replace h15 := h15.gr G2
  have S : St w W4 [(g5, IsI 0 0), (w.heap.size + 1 + 1, IsI 0 0), (w.heap.size + 1, IsI 0 0), (w.heap.size, IsI k1 z1)] := S2; clear S2 G2
  clear h14
  obtain ⟨s8, a8, n8, c8, b8, _⟩ := S.at 1 (w.heap.size + 1 + 1) (IsI 0 0) rfl; have F1 := b8.c0; have F2 := b8.c1; have F3 := b8.f0; have F4 := b8.f1
  refine wpList_step fun K hK => ?_; go_simp; refine hK _ _ ?_; clear hK K
  clear F1 F2 F3 F4 b8
  obtain ⟨W5, hW, S2, G2, _⟩ := S.put 1 (w.heap.size + 1 + 1) (IsI 0 0) (IsI 0 0) rfl s15 a15 n15 c15 (IsI.gstb _ _) ⟨_, _, _, _, rfl, h15⟩
  rw [← hW]; clear hW S
  have S : St w W5 [(g5, IsI 0 0), (w.heap.size + 1 + 1, IsI 0 0), (w.heap.size + 1, IsI 0 0), (w.heap.size, IsI k1 z1)] := S2; clear S2 G2
  clear h15
  refine wpList_step fun K hK => ?_; go_simp; refine hK _ _ ?_; clear hK K
  refine wpList_nil ?_
  go_wp2_with fail
  obtain ⟨rs0, ra0, rn0, rc0, rb0, rh0⟩ := S.at 2 (w.heap.size + 1) (IsI 0 0) rfl; have T0 := rb0.c0; have U0 := rb0.c1
  obtain ⟨rs1, ra1, rn1, rc1, rb1, rh1⟩ := S.at 1 (w.heap.size + 1 + 1) (IsI 0 0) rfl; have T1 := rb1.c0; have U1 := rb1.c1
  exact bodyPost_ret (v := .tuple #[.agg #[.bool rs0, .slice ra0 rn0 rc0], .agg #[.bool rs1, .slice ra1 rn1 rc1], .int .i64 1]) (by simp [results, Tryd.results24, go_sem, T0, U0, T1, U1]) rfl (⟨_, rfl, S.ext, _, _, _, rfl, rh0, rh1, rfl⟩)

theorem Sqrt_f {k1 : Nat} {z1 : Int} {x : Value} {w : World} (hx : IsI k1 z1 x w) (l1 : k1 ≤ 1048576) (h0 : 0 ≤ z1) (r : Nat) (hr : IsRoot z1.natAbs 2 r) :
    Calls Tryd.prog 24 #[x] w (Ret w (IsT3 (IsI k1 (r : Int)) (IsI k1 (z1 - (r : Int) * (r : Int))) (IsV (.int .i64 0)))) := by
  obtain ⟨s, a, n, c, rfl, h1⟩ := hx
  exact Sqrt_c w s a n c k1 z1 h1 l1 h0 r hr
theorem Sqrtneg_f {k1 : Nat} {z1 : Int} {x : Value} {w : World} (hx : IsI k1 z1 x w) (l1 : k1 ≤ 1048576) (h0 : z1 < 0) :
    Calls Tryd.prog 24 #[x] w (Ret w (IsT3 (IsI 0 0) (IsI 0 0) (IsV (.int .i64 1)))) := by
  obtain ⟨s, a, n, c, rfl, h1⟩ := hx
  exact Sqrtneg_c w s a n c k1 z1 h1 l1 h0

theorem lt_of_bitLen (q k : Nat) (hq : bitLen q ≤ 32 * k) : q < 4294967296 ^ k := by
  rw [show (4294967296 : Nat) = 2 ^ 32 from rfl, ← Nat.pow_mul]
  rcases Nat.eq_zero_or_pos q with h0 | h0
  · subst h0; exact Nat.pow_pos (by decide)
  · obtain ⟨b, h6, _, h7⟩ := bitLen_bounds q (by omega)
    exact Nat.lt_of_lt_of_le h7 (Nat.pow_le_pow_right (by decide) (by omega))
/-- Pow, as facts. -/
theorem Powrng_f {k1 : Nat} {z1 : Int} {x : Value} {w : World} (hx : IsI k1 z1 x w) (n : Int) (hn : n < 0 ∨ 4096 < n) (hlo : -9223372036854775808 ≤ n) (hhi : n ≤ 9223372036854775807) :
    Calls Tryd.prog 20 #[x, .int .i64 n] w (Ret w (IsT2 (IsI 0 0) (IsV (.int .i64 1)))) := by
  obtain ⟨s, a, m, c, rfl, h1⟩ := hx
  exact Calls.mono (Pow_rng w s a m c n hn hlo hhi) fun _ _ ⟨s, a, n, c, h1, h2, h3⟩ => ⟨_, h1, h2, _, _, rfl, ⟨_, _, _, _, rfl, h3⟩, rfl⟩
theorem Powbig_f {k1 : Nat} {z1 : Int} {x : Value} {w : World} (hx : IsI k1 z1 x w) (l1 : k1 ≤ 268435456) (n : Int) (h0 : 0 ≤ n) (h4 : n ≤ 4096) (hb1 : 1 < bitLen z1.natAbs) (hb2 : 4096 ≤ ((bitLen z1.natAbs : Nat) - 1 : Int) * n) :
    Calls Tryd.prog 20 #[x, .int .i64 n] w (Ret w (IsT2 (IsI 0 0) (IsV (.int .i64 2)))) := by
  have hb := bitLen_le _ _ hx.size
  obtain ⟨s, a, m, c, rfl, h1⟩ := hx
  exact Calls.mono (Pow_big w s a m c k1 z1 h1 l1 n h0 h4 hb1 hb2 (by omega)) fun _ _ ⟨s, a, n, c, h1, h2, h3⟩ => ⟨_, h1, h2, _, _, rfl, ⟨_, _, _, _, rfl, h3⟩, rfl⟩
theorem Pow_f {k1 : Nat} {z1 : Int} {x : Value} {w : World} (hx : IsI k1 z1 x w) (l1 : k1 ≤ 268435456) (n : Nat) (h4 : n ≤ 4096) (hb : ¬ (1 < bitLen z1.natAbs ∧ (4096 : Int) ≤ ((bitLen z1.natAbs : Nat) - 1 : Int) * n)) (hs : bitLen (z1 ^ n).natAbs ≤ 4096) :
    Calls Tryd.prog 20 #[x, .int .i64 n] w (Ret w (IsT2 (IsI 128 (z1 ^ n)) (IsV (.int .i64 0)))) := by
  have hb3 := bitLen_le _ _ hx.size
  obtain ⟨s, a, m, c, rfl, h1⟩ := hx
  refine Calls.mono (Pow_ok w s a m c k1 z1 h1 l1 n h4 hb (by omega)) fun _ _ ⟨s, a, n, c, h1, h2, h3⟩ => ?_
  rw [if_neg (by omega)] at h1 h3
  refine ⟨_, h1, h2, _, _, rfl, ⟨_, _, _, _, rfl, h3.tight ?_⟩, rfl⟩
  exact lt_of_bitLen _ 128 (by omega)
theorem Powhuge_f {k1 : Nat} {z1 : Int} {x : Value} {w : World} (hx : IsI k1 z1 x w) (l1 : k1 ≤ 268435456) (n : Nat) (h4 : n ≤ 4096) (hb : ¬ (1 < bitLen z1.natAbs ∧ (4096 : Int) ≤ ((bitLen z1.natAbs : Nat) - 1 : Int) * n)) (hs : 4096 < bitLen (z1 ^ n).natAbs) :
    Calls Tryd.prog 20 #[x, .int .i64 n] w (Ret w (IsT2 (IsI 0 0) (IsV (.int .i64 2)))) := by
  have hb3 := bitLen_le _ _ hx.size
  obtain ⟨s, a, m, c, rfl, h1⟩ := hx
  refine Calls.mono (Pow_ok w s a m c k1 z1 h1 l1 n h4 hb (by omega)) fun _ _ ⟨s, a, n, c, h1, h2, h3⟩ => ?_
  rw [if_pos hs] at h1 h3
  exact ⟨_, h1, h2, _, _, rfl, ⟨_, _, _, _, rfl, h3.tight (Nat.pow_pos (by decide))⟩, rfl⟩
end Go.Proofs.YtpflfagjkmeeiaaDoor
