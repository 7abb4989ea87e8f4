/-
  The laws of layer 1: is and examples. Where the table of powers of ten is laid. (Printed in part by wip/gen/law01a.py.)
-/
import Derived.Test.YtpflfagjkmeeiaaDoorRgm
namespace Go.Proofs.YtpflfagjkmeeiaaDoor
open Go Go.RowKit

theorem bez_uniq (a b g u v u' v' : Int) (hb : b ≠ 0) (hga : g ∣ a) (hgb : g ∣ b) (h : g = u * a + v * b) (h' : g = u' * a + v' * b) (h0 : 0 ≤ u) (h1 : u < (b / g).natAbs) (h0' : 0 ≤ u') (h1' : u' < (b / g).natAbs) : u = u' ∧ v = v' := by
  obtain ⟨a', rfl⟩ := hga
  obtain ⟨b', rfl⟩ := hgb
  have hg : g ≠ 0 := fun h => hb (by rw [h]; simp)
  have hb' : b' ≠ 0 := fun h => hb (by rw [h]; simp)
  rw [Int.mul_ediv_cancel_left _ hg] at h1 h1'
  have e1 : u * a' + v * b' = 1 := by
    have h2 : g * (u * a' + v * b') = g * 1 := by rw [Int.mul_one]; grind
    exact Int.eq_of_mul_eq_mul_left hg h2
  have e2 : (u - u') * a' = (v' - v) * b' := by
    have h2 : g * ((u - u') * a') = g * ((v' - v) * b') := by grind
    exact Int.eq_of_mul_eq_mul_left hg h2
  have e3 : u - u' = b' * (u * (v' - v) + v * (u - u')) := by
    have h3 : (u - u') * (u * a' + v * b') = u - u' := by rw [e1, Int.mul_one]
    have h4 : (u - u') * (u * a' + v * b') = u * ((u - u') * a') + v * b' * (u - u') := by grind
    rw [e2] at h4
    rw [← h3, h4]; grind
  have e4 : u * (v' - v) + v * (u - u') = 0 := by
    generalize u * (v' - v) + v * (u - u') = q at *
    rcases Classical.em (q = 0) with h5 | h5
    · exact h5
    · exfalso
      have h6 : (u - u').natAbs = b'.natAbs * q.natAbs := by rw [e3, Int.natAbs_mul]
      have h7 : b'.natAbs * 1 ≤ b'.natAbs * q.natAbs := Nat.mul_le_mul_left _ (by omega)
      omega
  rw [e4, Int.mul_zero] at e3
  have hu : u = u' := by omega
  subst hu
  refine ⟨rfl, ?_⟩
  rw [Int.sub_self, Int.zero_mul] at e2
  rcases Int.mul_eq_zero.1 e2.symm with h5 | h5
  · omega
  · exact absurd h5 hb'

theorem Bezout_v {k1 k2 : Nat} {z1 z2 : Int} {x y : Value} {w : World} (hx : IsI k1 z1 x w) (hy : IsI k2 z2 y w) (l1 : k1 ≤ 33554432) (l2 : k2 ≤ 33554432) (g u v : Int) (hz : z2 ≠ 0) (hg : (Int.gcd z1 z2 : Int) = g) (h : g = u * z1 + v * z2) (h0 : 0 ≤ u) (h1 : u < (z2 / g).natAbs) :
    Calls Tryd.prog 18 #[x, y] w (Ret w (IsT3 (IsI k2 g) (IsI k2 u) (IsI (k2 + k1 + 1) v))) := by
  refine Calls.mono (Bezout_f hx hy l1 l2 hz) fun e w' ⟨u', v', hr, h2, h3, h4⟩ => ?_
  rw [hg] at hr h2 h4
  obtain ⟨rfl, rfl⟩ := bez_uniq z1 z2 g u v u' v' hz (hg ▸ Int.gcd_dvd_left z1 z2) (hg ▸ Int.gcd_dvd_right z1 z2) h h2 h0 h1 h3 h4
  exact hr

set_option maxRecDepth 100000 in
theorem is_c (w : World) (s1 : Bool) (a1 : Option Addr) (n1 c1 k1 : Nat) (z1 : Int) (h1 : IntAt w k1 s1 a1 n1 c1 z1) (n : Int) (hz : z1 = n) (l1 : k1 ≤ 268435456) (hb0 : -9223372036854775808 ≤ n) (hb1 : n ≤ 9223372036854775807) :
    Calls Tryd.prog 34 #[.agg #[.bool s1, .slice a1 n1 c1], .int .i64 n] w (Ret w (IsV (.bool true))) := by
  have HZ := hid hz
  have HB := hid (And.intro hb0 hb1)
  clear hz hb0 hb1
  obtain ⟨W, hW, S⟩ : ∃ W, W = w.alloc (.cells #[.bool s1, .slice a1 n1 c1] 27) ∧ St w W [(w.heap.size, IsI k1 z1)] := ⟨_, rfl, ((St.start w).new' (w.heap.size) (by simp) s1 a1 n1 c1 27 (IsI k1 z1) (IsI.gstb _ _) ⟨_, _, _, _, rfl, h1⟩)⟩
  clear h1
  go_enter Tryd.func34, Tryd.ntmps34
  go_upto_region 1 with (fail)
  rw [← hW]
  clear hW
  refine wp_region_rg 5 [some 5, some 6, some 7, some 8, some 4] [IsI k1 z1, IsV (.int .i64 n), IsI 2 n, IsV (.bool true), IsV (.bool true)] [] 0 (by kernel_rfl) (by decide) (by kernel_rfl) (by kernel_rfl) (by kernel_rfl) (by kernel_rfl) (by kernel_rfl) ?_ ?_ ?_ ?_
  · repeat' (first | exact trivial | exact IsV.stb _ | exact IsI.stb _ _ | exact IsB.stb _ | exact IsR.stb _ _ | exact IsMag.stb _ _ | exact IsPos.stb | apply IsT3.stb | apply IsT2.stb | apply And.intro)
  · exact (fun _ h => by cases h)
  · refine RgAll.cons (by { (with_reducible refine RgL.mk (by rfl) ?_); intro v a w' hE hd hf; have ev0 := hf.lit 2 (.pointer (some ⟨w.heap.size, 0, none⟩)) (by kernel_rfl) (by kernel_rfl); obtain ⟨s8, a8, n8, c8, b8, h8⟩ := (S.mono hE).at 0 (w.heap.size) (IsI k1 z1) rfl; have L0 := b8.c0; have L1 := b8.c1; clear hd hf; intro K hK; go_simp; exact hK.out _ _ (Ext.refl _) h8 (FreshIf.no rfl) }) ?_
    refine RgAll.cons (by { (with_reducible refine RgL.mk (by rfl) ?_); intro v a w' hE hd hf; have ev0 := hf.lit 1 (.int .i64 n) (by kernel_rfl) (by kernel_rfl); clear hd hf; intro K hK; go_simp; exact hK.out _ _ (Ext.refl _) rfl (FreshIf.no rfl) }) ?_
    refine RgAll.cons (by { (with_reducible refine RgL.mk (by rfl) ?_); intro v a w' hE hd hf; have d0 : v 1 = .int .i64 n := hd 1 (by kernel_rfl); have ev0 := hf.val 1 6 _ d0 (by kernel_rfl) (by kernel_rfl) (by kernel_rfl); clear d0; clear hd hf; intro K hK; go_simp; go_at_call 33; go_split_ands; (with_reducible refine Calls.mono (ROf_f _ n HB.out.1 HB.out.2) ?_); rintro e w2 ⟨x, rfl, e2, hx⟩; exact hK.out _ _ e2 hx (FreshIf.no rfl) }) ?_
    refine RgAll.cons (by { (with_reducible refine RgL.mk (by rfl) ?_); intro v a w' hE hd hf; have d0 : (IsI k1 z1) (v 0) w' := hd 0 (by kernel_rfl); have ev0 := hf.val 0 5 _ rfl (by kernel_rfl) (by kernel_rfl) (by kernel_rfl); have d1 : (IsI 2 n) (v 2) w' := hd 2 (by kernel_rfl); have ev1 := hf.val 2 7 _ rfl (by kernel_rfl) (by kernel_rfl) (by kernel_rfl); clear hd hf; intro K hK; go_simp; go_at_call 14; go_split_ands; (with_reducible refine Calls.mono (Same_t d0 d1 HZ.out (by omega)) ?_); rintro e w2 ⟨x, rfl, e2, hx⟩; exact hK.out _ _ e2 hx (FreshIf.no rfl) }) ?_
    refine RgAll.cons (by { (with_reducible refine RgL.mk (by rfl) ?_); intro v a w' hE hd hf; have d0 : v 3 = .bool true := hd 3 (by kernel_rfl); have ev0 := hf.val 3 8 _ d0 (by kernel_rfl) (by kernel_rfl) (by kernel_rfl); clear d0; clear hd hf; intro K hK; go_simp; exact hK.out _ _ (Ext.refl _) rfl (FreshIf.no rfl) }) ?_
    exact RgAll.nil
  intro v W1 e1 hΦ _
  replace S := S.mono e1
  have v4 : v 4 = .bool true := hΦ 4 (by decide)
  simp only [layL, Act.put, List.setIfInBounds_toArray, List.set_cons_zero, List.set_cons_succ, Nat.reduceAdd]
  rw [v4]
  clear v4
  clear hΦ
  clear e1
  refine wpAny_done (by kernel_rfl) ?_ _
  go_wp2_with fail
  exact bodyPost_ret (v := .bool true) (by simp [results, Tryd.results34, go_sem]) rfl (⟨_, rfl, S.ext, rfl⟩)

theorem is_t {k1 : Nat} {z1 : Int} {x : Value} {w : World} (hx : IsI k1 z1 x w) (n : Int) (hz : z1 = n) (l1 : k1 ≤ 268435456) (hb0 : -9223372036854775808 ≤ n) (hb1 : n ≤ 9223372036854775807) :
    Calls Tryd.prog 34 #[x, .int .i64 n] w (Ret w (IsV (.bool true))) := by
  obtain ⟨s, a, m, c, rfl, h1⟩ := hx
  exact is_c w s a m c k1 z1 h1 n hz l1 hb0 hb1

theorem ex_text : encS (textS (-4294967296)) = .string ⟨#[45, 52, 50, 57, 52, 57, 54, 55, 50, 57, 54]⟩ ∧ textE (-4294967296) = 0 := by
  have h : Lib.itoa (-4294967296) = [45, 52, 50, 57, 52, 57, 54, 55, 50, 57, 54] := by
    rw [Lib.itoa, if_pos (by decide)]
    simp [Lib.decDigits]
  rw [textS, textE, h]
  exact ⟨rfl, rfl⟩

set_option maxRecDepth 100000 in
set_option maxHeartbeats 2000000 in
theorem examples_f (w : World) (ht : Tab w) : Calls Tryd.prog 9 #[] w (Ret w (IsV (.bool true))) := by
  have S : St w w [] := St.start w
  go_enter Tryd.func9, Tryd.ntmps9
  go_upto_region 1 with (fail)
  have hl := hid S.lt; have hw := S.ext.size
  refine wp_region_rgs 9 [some 25, some 26, some 27, some 24, some 28, some 29, some 30, some 1, some 2] [IsI 2 ((-7)), IsI 2 3, IsT3 (IsI 2 (((-7)) / 3)) (IsI 2 (((-7)) % 3)) (IsV (.int .i64 0)), IsT3 (IsI 2 (((-7)) / 3)) (IsI 2 (((-7)) % 3)) (IsV (.int .i64 0)), IsI 2 (((-7)) / 3), IsI 2 (((-7)) % 3), IsV (.int .i64 0), IsB w, IsB w] [7, 8] (by decide) (by kernel_rfl) (by kernel_rfl) (by kernel_rfl) ?_ ?_ ?_ ?_
  · repeat' (first | exact trivial | exact IsV.stb _ | exact IsI.stb _ _ | exact IsB.stb _ | exact IsR.stb _ _ | exact IsMag.stb _ _ | exact IsPos.stb | apply IsT3.stb | apply IsT2.stb | apply And.intro)
  · intro i hi; simp only [List.mem_cons, List.not_mem_nil, or_false] at hi; rcases hi with rfl | rfl <;> exact IsB.box _
  · refine RgAll.cons (by { (with_reducible refine RgL.mk (by rfl) ?_); intro v a w' hE hd hf; skip; clear hd hf; intro K hK; go_simp; go_at_call 33; go_split_ands; (with_reducible refine Calls.mono (ROf_f _ ((-7)) (by decide) (by decide)) ?_); rintro e w2 ⟨x, rfl, e2, hx⟩; exact hK.out _ _ e2 hx (FreshIf.no rfl) }) ?_
    refine RgAll.cons (by { (with_reducible refine RgL.mk (by rfl) ?_); intro v a w' hE hd hf; skip; clear hd hf; intro K hK; go_simp; go_at_call 33; go_split_ands; (with_reducible refine Calls.mono (ROf_f _ 3 (by decide) (by decide)) ?_); rintro e w2 ⟨x, rfl, e2, hx⟩; exact hK.out _ _ e2 hx (FreshIf.no rfl) }) ?_
    refine RgAll.cons (by { (with_reducible refine RgL.mk (by rfl) ?_); intro v a w' hE hd hf; have d0 : (IsI 2 ((-7))) (v 0) w' := hd 0 (by kernel_rfl); have ev0 := hf.val 0 25 _ rfl (by kernel_rfl) (by kernel_rfl) (by kernel_rfl); have d1 : (IsI 2 3) (v 1) w' := hd 1 (by kernel_rfl); have ev1 := hf.val 1 26 _ rfl (by kernel_rfl) (by kernel_rfl) (by kernel_rfl); clear hd hf; intro K hK; go_simp; go_at_call 11; go_split_ands; (with_reducible refine Calls.mono (DivMod_f d0 d1 (by decide) (by decide) (by decide)) ?_); rintro e w2 ⟨x, rfl, e2, hx⟩; exact hK.out _ _ e2 hx (FreshIf.no rfl) }) ?_
    refine RgAll.cons (by { (with_reducible refine RgL.mk (by rfl) ?_); intro v a w' hE hd hf; have d0 : (IsT3 (IsI 2 (((-7)) / 3)) (IsI 2 (((-7)) % 3)) (IsV (.int .i64 0))) (v 2) w' := hd 2 (by kernel_rfl); have ev0 := hf.val 2 27 _ rfl (by kernel_rfl) (by kernel_rfl) (by kernel_rfl); clear hd hf; intro K hK; go_simp; exact hK.out _ _ (Ext.refl _) d0 (FreshIf.no rfl) }) ?_
    refine RgAll.cons (by { (with_reducible refine RgL.mk (by rfl) ?_); intro v a w' hE hd hf; have d0 : (IsT3 (IsI 2 (((-7)) / 3)) (IsI 2 (((-7)) % 3)) (IsV (.int .i64 0))) (v 3) w' := hd 3 (by kernel_rfl); obtain ⟨x0, x1, x2, z0, y0, y1, y2⟩ := d0; have ev0 := hf.val 3 24 _ z0 (by kernel_rfl) (by kernel_rfl) (by kernel_rfl); clear z0; clear hd hf; intro K hK; go_simp; exact hK.out _ _ (Ext.refl _) y0 (FreshIf.no rfl) }) ?_
    refine RgAll.cons (by { (with_reducible refine RgL.mk (by rfl) ?_); intro v a w' hE hd hf; have d0 : (IsT3 (IsI 2 (((-7)) / 3)) (IsI 2 (((-7)) % 3)) (IsV (.int .i64 0))) (v 3) w' := hd 3 (by kernel_rfl); obtain ⟨x0, x1, x2, z0, y0, y1, y2⟩ := d0; have ev0 := hf.val 3 24 _ z0 (by kernel_rfl) (by kernel_rfl) (by kernel_rfl); clear z0; clear hd hf; intro K hK; go_simp; exact hK.out _ _ (Ext.refl _) y1 (FreshIf.no rfl) }) ?_
    refine RgAll.cons (by { (with_reducible refine RgL.mk (by rfl) ?_); intro v a w' hE hd hf; have d0 : (IsT3 (IsI 2 (((-7)) / 3)) (IsI 2 (((-7)) % 3)) (IsV (.int .i64 0))) (v 3) w' := hd 3 (by kernel_rfl); obtain ⟨x0, x1, x2, z0, y0, y1, y2⟩ := d0; have ev0 := hf.val 3 24 _ z0 (by kernel_rfl) (by kernel_rfl) (by kernel_rfl); clear z0; clear hd hf; intro K hK; go_simp; exact hK.out _ _ (Ext.refl _) y2 (FreshIf.no rfl) }) ?_
    refine RgAll.cons (by { (with_reducible refine RgL.mk (by rfl) ?_); intro v a w' hE hd hf; skip; clear hd hf; intro K hK; go_simp; refine hK.out _ _ ((Ext.refl _).alloc _) ⟨_, rfl, hE.size, Bx.new _ _ _ _ _⟩ FreshIf.yes }) ?_
    refine RgAll.cons (by { (with_reducible refine RgL.mk (by rfl) ?_); intro v a w' hE hd hf; skip; clear hd hf; intro K hK; go_simp; refine hK.out _ _ ((Ext.refl _).alloc _) ⟨_, rfl, hE.size, Bx.new _ _ _ _ _⟩ FreshIf.yes }) ?_
    exact RgAll.nil
  intro v W1 e1 hΦ hne
  replace S := S.mono e1
  obtain ⟨s28, a28, n28, c28, v4, h28⟩ := (hΦ 4 (by decide) : IsI 2 (((-7)) / 3) (v 4) W1)
  obtain ⟨s29, a29, n29, c29, v5, h29⟩ := (hΦ 5 (by decide) : IsI 2 (((-7)) % 3) (v 5) W1)
  have v6 : v 6 = .int .i64 0 := hΦ 6 (by decide)
  obtain ⟨g1, v7, q2, b1⟩ := (hΦ 7 (by decide) : IsB w (v 7) W1)
  replace S := S.addN (Apart.old hl.out q2) (Nat.le_trans hw q2) b1
  clear b1
  obtain ⟨g2, v8, q4, b3⟩ := (hΦ 8 (by decide) : IsB w (v 8) W1)
  replace S := S.addN (Apart.cons (fun h => hne 7 8 (by decide) (by decide) (by decide) (by decide) (by decide) (by rw [v7, v8, h])) (Apart.old hl.out q4)) (Nat.le_trans hw q4) b3
  clear b3
  clear hne
  simp only [layL, Act.put, List.setIfInBounds_toArray, List.set_cons_zero, List.set_cons_succ, Nat.reduceAdd]
  rw [v4, v5, v6, v7, v8]
  clear v4 v5 v6 v7 v8
  clear hΦ
  clear hl hw
  clear e1
  obtain ⟨s8, a8, n8, c8, b8, _⟩ := S.at 1 (g1) (IsI 0 0) rfl; have F1 := b8.c0; have F2 := b8.c1; have F3 := b8.f0; have F4 := b8.f1
  refine wpList_step fun K hK => ?_; go_simp; refine hK _ _ ?_; clear hK K
  clear F1 F2 F3 F4 b8
  obtain ⟨W2, hW, S2, G2, _⟩ := S.put 1 (g1) (IsI 0 0) (IsI 2 (((-7)) / 3)) rfl s28 a28 n28 c28 (IsI.gstb _ _) ⟨_, _, _, _, rfl, h28⟩
  rw [← hW]; clear hW S
  replace h29 := h29.gr G2
  have S : St w W2 [(g2, IsI 0 0), (g1, IsI 2 (((-7)) / 3))] := S2; clear S2 G2
  clear h28
  obtain ⟨s8, a8, n8, c8, b8, _⟩ := S.at 0 (g2) (IsI 0 0) rfl; have F1 := b8.c0; have F2 := b8.c1; have F3 := b8.f0; have F4 := b8.f1
  refine wpList_step fun K hK => ?_; go_simp; refine hK _ _ ?_; clear hK K
  clear F1 F2 F3 F4 b8
  obtain ⟨W3, hW, S2, G2, _⟩ := S.put 0 (g2) (IsI 0 0) (IsI 2 (((-7)) % 3)) rfl s29 a29 n29 c29 (IsI.gstb _ _) ⟨_, _, _, _, rfl, h29⟩
  rw [← hW]; clear hW S
  have S : St w W3 [(g2, IsI 2 (((-7)) % 3)), (g1, IsI 2 (((-7)) / 3))] := S2; clear S2 G2
  clear h29
  refine wpList_step fun K hK => ?_; go_simp; refine hK _ _ ?_; clear hK K
  refine wpList_nil ?_
  go_upto_region 2 with (fail)
  have hl := hid S.lt; have hw := S.ext.size
  refine wp_region_rgs 9 [some 32, some 33, some 34, some 31, some 35, some 36, some 37, some 4, some 5] [IsI 2 ((-7)), IsI 2 ((-3)), IsT3 (IsI 2 (((-7)) / ((-3)))) (IsI 2 (((-7)) % ((-3)))) (IsV (.int .i64 0)), IsT3 (IsI 2 (((-7)) / ((-3)))) (IsI 2 (((-7)) % ((-3)))) (IsV (.int .i64 0)), IsI 2 (((-7)) / ((-3))), IsI 2 (((-7)) % ((-3))), IsV (.int .i64 0), IsB W3, IsB W3] [7, 8] (by decide) (by kernel_rfl) (by kernel_rfl) (by kernel_rfl) ?_ ?_ ?_ ?_
  · repeat' (first | exact trivial | exact IsV.stb _ | exact IsI.stb _ _ | exact IsB.stb _ | exact IsR.stb _ _ | exact IsMag.stb _ _ | exact IsPos.stb | apply IsT3.stb | apply IsT2.stb | apply And.intro)
  · intro i hi; simp only [List.mem_cons, List.not_mem_nil, or_false] at hi; rcases hi with rfl | rfl <;> exact IsB.box _
  · refine RgAll.cons (by { (with_reducible refine RgL.mk (by rfl) ?_); intro v a w' hE hd hf; skip; clear hd hf; intro K hK; go_simp; go_at_call 33; go_split_ands; (with_reducible refine Calls.mono (ROf_f _ ((-7)) (by decide) (by decide)) ?_); rintro e w2 ⟨x, rfl, e2, hx⟩; exact hK.out _ _ e2 hx (FreshIf.no rfl) }) ?_
    refine RgAll.cons (by { (with_reducible refine RgL.mk (by rfl) ?_); intro v a w' hE hd hf; skip; clear hd hf; intro K hK; go_simp; go_at_call 33; go_split_ands; (with_reducible refine Calls.mono (ROf_f _ ((-3)) (by decide) (by decide)) ?_); rintro e w2 ⟨x, rfl, e2, hx⟩; exact hK.out _ _ e2 hx (FreshIf.no rfl) }) ?_
    refine RgAll.cons (by { (with_reducible refine RgL.mk (by rfl) ?_); intro v a w' hE hd hf; have d0 : (IsI 2 ((-7))) (v 0) w' := hd 0 (by kernel_rfl); have ev0 := hf.val 0 32 _ rfl (by kernel_rfl) (by kernel_rfl) (by kernel_rfl); have d1 : (IsI 2 ((-3))) (v 1) w' := hd 1 (by kernel_rfl); have ev1 := hf.val 1 33 _ rfl (by kernel_rfl) (by kernel_rfl) (by kernel_rfl); clear hd hf; intro K hK; go_simp; go_at_call 11; go_split_ands; (with_reducible refine Calls.mono (DivMod_f d0 d1 (by decide) (by decide) (by decide)) ?_); rintro e w2 ⟨x, rfl, e2, hx⟩; exact hK.out _ _ e2 hx (FreshIf.no rfl) }) ?_
    refine RgAll.cons (by { (with_reducible refine RgL.mk (by rfl) ?_); intro v a w' hE hd hf; have d0 : (IsT3 (IsI 2 (((-7)) / ((-3)))) (IsI 2 (((-7)) % ((-3)))) (IsV (.int .i64 0))) (v 2) w' := hd 2 (by kernel_rfl); have ev0 := hf.val 2 34 _ rfl (by kernel_rfl) (by kernel_rfl) (by kernel_rfl); clear hd hf; intro K hK; go_simp; exact hK.out _ _ (Ext.refl _) d0 (FreshIf.no rfl) }) ?_
    refine RgAll.cons (by { (with_reducible refine RgL.mk (by rfl) ?_); intro v a w' hE hd hf; have d0 : (IsT3 (IsI 2 (((-7)) / ((-3)))) (IsI 2 (((-7)) % ((-3)))) (IsV (.int .i64 0))) (v 3) w' := hd 3 (by kernel_rfl); obtain ⟨x0, x1, x2, z0, y0, y1, y2⟩ := d0; have ev0 := hf.val 3 31 _ z0 (by kernel_rfl) (by kernel_rfl) (by kernel_rfl); clear z0; clear hd hf; intro K hK; go_simp; exact hK.out _ _ (Ext.refl _) y0 (FreshIf.no rfl) }) ?_
    refine RgAll.cons (by { (with_reducible refine RgL.mk (by rfl) ?_); intro v a w' hE hd hf; have d0 : (IsT3 (IsI 2 (((-7)) / ((-3)))) (IsI 2 (((-7)) % ((-3)))) (IsV (.int .i64 0))) (v 3) w' := hd 3 (by kernel_rfl); obtain ⟨x0, x1, x2, z0, y0, y1, y2⟩ := d0; have ev0 := hf.val 3 31 _ z0 (by kernel_rfl) (by kernel_rfl) (by kernel_rfl); clear z0; clear hd hf; intro K hK; go_simp; exact hK.out _ _ (Ext.refl _) y1 (FreshIf.no rfl) }) ?_
    refine RgAll.cons (by { (with_reducible refine RgL.mk (by rfl) ?_); intro v a w' hE hd hf; have d0 : (IsT3 (IsI 2 (((-7)) / ((-3)))) (IsI 2 (((-7)) % ((-3)))) (IsV (.int .i64 0))) (v 3) w' := hd 3 (by kernel_rfl); obtain ⟨x0, x1, x2, z0, y0, y1, y2⟩ := d0; have ev0 := hf.val 3 31 _ z0 (by kernel_rfl) (by kernel_rfl) (by kernel_rfl); clear z0; clear hd hf; intro K hK; go_simp; exact hK.out _ _ (Ext.refl _) y2 (FreshIf.no rfl) }) ?_
    refine RgAll.cons (by { (with_reducible refine RgL.mk (by rfl) ?_); intro v a w' hE hd hf; skip; clear hd hf; intro K hK; go_simp; refine hK.out _ _ ((Ext.refl _).alloc _) ⟨_, rfl, hE.size, Bx.new _ _ _ _ _⟩ FreshIf.yes }) ?_
    refine RgAll.cons (by { (with_reducible refine RgL.mk (by rfl) ?_); intro v a w' hE hd hf; skip; clear hd hf; intro K hK; go_simp; refine hK.out _ _ ((Ext.refl _).alloc _) ⟨_, rfl, hE.size, Bx.new _ _ _ _ _⟩ FreshIf.yes }) ?_
    exact RgAll.nil
  intro v W4 e1 hΦ hne
  replace S := S.mono e1
  obtain ⟨s35, a35, n35, c35, v4, h35⟩ := (hΦ 4 (by decide) : IsI 2 (((-7)) / ((-3))) (v 4) W4)
  obtain ⟨s36, a36, n36, c36, v5, h36⟩ := (hΦ 5 (by decide) : IsI 2 (((-7)) % ((-3))) (v 5) W4)
  have v6 : v 6 = .int .i64 0 := hΦ 6 (by decide)
  obtain ⟨g4, v7, q6, b5⟩ := (hΦ 7 (by decide) : IsB W3 (v 7) W4)
  replace S := S.addN (Apart.old hl.out q6) (Nat.le_trans hw q6) b5
  clear b5
  obtain ⟨g5, v8, q8, b7⟩ := (hΦ 8 (by decide) : IsB W3 (v 8) W4)
  replace S := S.addN (Apart.cons (fun h => hne 7 8 (by decide) (by decide) (by decide) (by decide) (by decide) (by rw [v7, v8, h])) (Apart.old hl.out q8)) (Nat.le_trans hw q8) b7
  clear b7
  clear hne
  simp only [layL, Act.put, List.setIfInBounds_toArray, List.set_cons_zero, List.set_cons_succ, Nat.reduceAdd]
  rw [v4, v5, v6, v7, v8]
  clear v4 v5 v6 v7 v8
  clear hΦ
  clear hl hw
  clear e1
  obtain ⟨s8, a8, n8, c8, b8, _⟩ := S.at 1 (g4) (IsI 0 0) rfl; have F1 := b8.c0; have F2 := b8.c1; have F3 := b8.f0; have F4 := b8.f1
  refine wpList_step fun K hK => ?_; go_simp; refine hK _ _ ?_; clear hK K
  clear F1 F2 F3 F4 b8
  obtain ⟨W5, hW, S2, G2, _⟩ := S.put 1 (g4) (IsI 0 0) (IsI 2 (((-7)) / ((-3)))) rfl s35 a35 n35 c35 (IsI.gstb _ _) ⟨_, _, _, _, rfl, h35⟩
  rw [← hW]; clear hW S
  replace h36 := h36.gr G2
  have S : St w W5 [(g5, IsI 0 0), (g4, IsI 2 (((-7)) / ((-3)))), (g2, IsI 2 (((-7)) % 3)), (g1, IsI 2 (((-7)) / 3))] := S2; clear S2 G2
  clear h35
  obtain ⟨s8, a8, n8, c8, b8, _⟩ := S.at 0 (g5) (IsI 0 0) rfl; have F1 := b8.c0; have F2 := b8.c1; have F3 := b8.f0; have F4 := b8.f1
  refine wpList_step fun K hK => ?_; go_simp; refine hK _ _ ?_; clear hK K
  clear F1 F2 F3 F4 b8
  obtain ⟨W6, hW, S2, G2, _⟩ := S.put 0 (g5) (IsI 0 0) (IsI 2 (((-7)) % ((-3)))) rfl s36 a36 n36 c36 (IsI.gstb _ _) ⟨_, _, _, _, rfl, h36⟩
  rw [← hW]; clear hW S
  have S : St w W6 [(g5, IsI 2 (((-7)) % ((-3)))), (g4, IsI 2 (((-7)) / ((-3)))), (g2, IsI 2 (((-7)) % 3)), (g1, IsI 2 (((-7)) / 3))] := S2; clear S2 G2
  clear h36
  refine wpList_step fun K hK => ?_; go_simp; refine hK _ _ ?_; clear hK K
  refine wpList_nil ?_
  go_upto_region 3 with (fail)
  have hl := hid S.lt; have hw := S.ext.size
  refine wp_region_rgs 10 [some 39, some 40, some 41, some 38, some 42, some 43, some 44, some 7, some 8, some 9] [IsI 2 12, IsI 2 18, IsT3 (IsI 2 6) (IsI 2 2) (IsI 5 (-1)), IsT3 (IsI 2 6) (IsI 2 2) (IsI 5 (-1)), IsI 2 6, IsI 2 2, IsI 5 (-1), IsB W6, IsB W6, IsB W6] [7, 8, 9] (by decide) (by kernel_rfl) (by kernel_rfl) (by kernel_rfl) ?_ ?_ ?_ ?_
  · repeat' (first | exact trivial | exact IsV.stb _ | exact IsI.stb _ _ | exact IsB.stb _ | exact IsR.stb _ _ | exact IsMag.stb _ _ | exact IsPos.stb | apply IsT3.stb | apply IsT2.stb | apply And.intro)
  · intro i hi; simp only [List.mem_cons, List.not_mem_nil, or_false] at hi; rcases hi with rfl | rfl | rfl <;> exact IsB.box _
  · refine RgAll.cons (by { (with_reducible refine RgL.mk (by rfl) ?_); intro v a w' hE hd hf; skip; clear hd hf; intro K hK; go_simp; go_at_call 33; go_split_ands; (with_reducible refine Calls.mono (ROf_f _ 12 (by decide) (by decide)) ?_); rintro e w2 ⟨x, rfl, e2, hx⟩; exact hK.out _ _ e2 hx (FreshIf.no rfl) }) ?_
    refine RgAll.cons (by { (with_reducible refine RgL.mk (by rfl) ?_); intro v a w' hE hd hf; skip; clear hd hf; intro K hK; go_simp; go_at_call 33; go_split_ands; (with_reducible refine Calls.mono (ROf_f _ 18 (by decide) (by decide)) ?_); rintro e w2 ⟨x, rfl, e2, hx⟩; exact hK.out _ _ e2 hx (FreshIf.no rfl) }) ?_
    refine RgAll.cons (by { (with_reducible refine RgL.mk (by rfl) ?_); intro v a w' hE hd hf; have d0 : (IsI 2 12) (v 0) w' := hd 0 (by kernel_rfl); have ev0 := hf.val 0 39 _ rfl (by kernel_rfl) (by kernel_rfl) (by kernel_rfl); have d1 : (IsI 2 18) (v 1) w' := hd 1 (by kernel_rfl); have ev1 := hf.val 1 40 _ rfl (by kernel_rfl) (by kernel_rfl) (by kernel_rfl); clear hd hf; intro K hK; go_simp; go_at_call 18; go_split_ands; (with_reducible refine Calls.mono (Bezout_v d0 d1 (by decide) (by decide) 6 2 (-1) (by decide) (by decide) (by decide) (by decide) (by decide)) ?_); rintro e w2 ⟨x, rfl, e2, hx⟩; exact hK.out _ _ e2 hx (FreshIf.no rfl) }) ?_
    refine RgAll.cons (by { (with_reducible refine RgL.mk (by rfl) ?_); intro v a w' hE hd hf; have d0 : (IsT3 (IsI 2 6) (IsI 2 2) (IsI 5 (-1))) (v 2) w' := hd 2 (by kernel_rfl); have ev0 := hf.val 2 41 _ rfl (by kernel_rfl) (by kernel_rfl) (by kernel_rfl); clear hd hf; intro K hK; go_simp; exact hK.out _ _ (Ext.refl _) d0 (FreshIf.no rfl) }) ?_
    refine RgAll.cons (by { (with_reducible refine RgL.mk (by rfl) ?_); intro v a w' hE hd hf; have d0 : (IsT3 (IsI 2 6) (IsI 2 2) (IsI 5 (-1))) (v 3) w' := hd 3 (by kernel_rfl); obtain ⟨x0, x1, x2, z0, y0, y1, y2⟩ := d0; have ev0 := hf.val 3 38 _ z0 (by kernel_rfl) (by kernel_rfl) (by kernel_rfl); clear z0; clear hd hf; intro K hK; go_simp; exact hK.out _ _ (Ext.refl _) y0 (FreshIf.no rfl) }) ?_
    refine RgAll.cons (by { (with_reducible refine RgL.mk (by rfl) ?_); intro v a w' hE hd hf; have d0 : (IsT3 (IsI 2 6) (IsI 2 2) (IsI 5 (-1))) (v 3) w' := hd 3 (by kernel_rfl); obtain ⟨x0, x1, x2, z0, y0, y1, y2⟩ := d0; have ev0 := hf.val 3 38 _ z0 (by kernel_rfl) (by kernel_rfl) (by kernel_rfl); clear z0; clear hd hf; intro K hK; go_simp; exact hK.out _ _ (Ext.refl _) y1 (FreshIf.no rfl) }) ?_
    refine RgAll.cons (by { (with_reducible refine RgL.mk (by rfl) ?_); intro v a w' hE hd hf; have d0 : (IsT3 (IsI 2 6) (IsI 2 2) (IsI 5 (-1))) (v 3) w' := hd 3 (by kernel_rfl); obtain ⟨x0, x1, x2, z0, y0, y1, y2⟩ := d0; have ev0 := hf.val 3 38 _ z0 (by kernel_rfl) (by kernel_rfl) (by kernel_rfl); clear z0; clear hd hf; intro K hK; go_simp; exact hK.out _ _ (Ext.refl _) y2 (FreshIf.no rfl) }) ?_
    refine RgAll.cons (by { (with_reducible refine RgL.mk (by rfl) ?_); intro v a w' hE hd hf; skip; clear hd hf; intro K hK; go_simp; refine hK.out _ _ ((Ext.refl _).alloc _) ⟨_, rfl, hE.size, Bx.new _ _ _ _ _⟩ FreshIf.yes }) ?_
    refine RgAll.cons (by { (with_reducible refine RgL.mk (by rfl) ?_); intro v a w' hE hd hf; skip; clear hd hf; intro K hK; go_simp; refine hK.out _ _ ((Ext.refl _).alloc _) ⟨_, rfl, hE.size, Bx.new _ _ _ _ _⟩ FreshIf.yes }) ?_
    refine RgAll.cons (by { (with_reducible refine RgL.mk (by rfl) ?_); intro v a w' hE hd hf; skip; clear hd hf; intro K hK; go_simp; refine hK.out _ _ ((Ext.refl _).alloc _) ⟨_, rfl, hE.size, Bx.new _ _ _ _ _⟩ FreshIf.yes }) ?_
    exact RgAll.nil
  intro v W7 e1 hΦ hne
  replace S := S.mono e1
  obtain ⟨s42, a42, n42, c42, v4, h42⟩ := (hΦ 4 (by decide) : IsI 2 6 (v 4) W7)
  obtain ⟨s43, a43, n43, c43, v5, h43⟩ := (hΦ 5 (by decide) : IsI 2 2 (v 5) W7)
  obtain ⟨s44, a44, n44, c44, v6, h44⟩ := (hΦ 6 (by decide) : IsI 5 (-1) (v 6) W7)
  obtain ⟨g7, v7, q10, b9⟩ := (hΦ 7 (by decide) : IsB W6 (v 7) W7)
  replace S := S.addN (Apart.old hl.out q10) (Nat.le_trans hw q10) b9
  clear b9
  obtain ⟨g8, v8, q12, b11⟩ := (hΦ 8 (by decide) : IsB W6 (v 8) W7)
  replace S := S.addN (Apart.cons (fun h => hne 7 8 (by decide) (by decide) (by decide) (by decide) (by decide) (by rw [v7, v8, h])) (Apart.old hl.out q12)) (Nat.le_trans hw q12) b11
  clear b11
  obtain ⟨g9, v9, q14, b13⟩ := (hΦ 9 (by decide) : IsB W6 (v 9) W7)
  replace S := S.addN (Apart.cons (fun h => hne 8 9 (by decide) (by decide) (by decide) (by decide) (by decide) (by rw [v8, v9, h])) (Apart.cons (fun h => hne 7 9 (by decide) (by decide) (by decide) (by decide) (by decide) (by rw [v7, v9, h])) (Apart.old hl.out q14))) (Nat.le_trans hw q14) b13
  clear b13
  clear hne
  simp only [layL, Act.put, List.setIfInBounds_toArray, List.set_cons_zero, List.set_cons_succ, Nat.reduceAdd]
  rw [v4, v5, v6, v7, v8, v9]
  clear v4 v5 v6 v7 v8 v9
  clear hΦ
  clear hl hw
  clear e1
  obtain ⟨s8, a8, n8, c8, b8, _⟩ := S.at 2 (g7) (IsI 0 0) rfl; have F1 := b8.c0; have F2 := b8.c1; have F3 := b8.f0; have F4 := b8.f1
  refine wpList_step fun K hK => ?_; go_simp; refine hK _ _ ?_; clear hK K
  clear F1 F2 F3 F4 b8
  obtain ⟨W8, hW, S2, G2, _⟩ := S.put 2 (g7) (IsI 0 0) (IsI 2 6) rfl s42 a42 n42 c42 (IsI.gstb _ _) ⟨_, _, _, _, rfl, h42⟩
  rw [← hW]; clear hW S
  replace h43 := h43.gr G2
  replace h44 := h44.gr G2
  have S : St w W8 [(g9, IsI 0 0), (g8, IsI 0 0), (g7, IsI 2 6), (g5, IsI 2 (((-7)) % ((-3)))), (g4, IsI 2 (((-7)) / ((-3)))), (g2, IsI 2 (((-7)) % 3)), (g1, IsI 2 (((-7)) / 3))] := S2; clear S2 G2
  clear h42
  obtain ⟨s8, a8, n8, c8, b8, _⟩ := S.at 1 (g8) (IsI 0 0) rfl; have F1 := b8.c0; have F2 := b8.c1; have F3 := b8.f0; have F4 := b8.f1
  refine wpList_step fun K hK => ?_; go_simp; refine hK _ _ ?_; clear hK K
  clear F1 F2 F3 F4 b8
  obtain ⟨W9, hW, S2, G2, _⟩ := S.put 1 (g8) (IsI 0 0) (IsI 2 2) rfl s43 a43 n43 c43 (IsI.gstb _ _) ⟨_, _, _, _, rfl, h43⟩
  rw [← hW]; clear hW S
  replace h44 := h44.gr G2
  have S : St w W9 [(g9, IsI 0 0), (g8, IsI 2 2), (g7, IsI 2 6), (g5, IsI 2 (((-7)) % ((-3)))), (g4, IsI 2 (((-7)) / ((-3)))), (g2, IsI 2 (((-7)) % 3)), (g1, IsI 2 (((-7)) / 3))] := S2; clear S2 G2
  clear h43
  obtain ⟨s8, a8, n8, c8, b8, _⟩ := S.at 0 (g9) (IsI 0 0) rfl; have F1 := b8.c0; have F2 := b8.c1; have F3 := b8.f0; have F4 := b8.f1
  refine wpList_step fun K hK => ?_; go_simp; refine hK _ _ ?_; clear hK K
  clear F1 F2 F3 F4 b8
  obtain ⟨W10, hW, S2, G2, _⟩ := S.put 0 (g9) (IsI 0 0) (IsI 5 (-1)) rfl s44 a44 n44 c44 (IsI.gstb _ _) ⟨_, _, _, _, rfl, h44⟩
  rw [← hW]; clear hW S
  have S : St w W10 [(g9, IsI 5 (-1)), (g8, IsI 2 2), (g7, IsI 2 6), (g5, IsI 2 (((-7)) % ((-3)))), (g4, IsI 2 (((-7)) / ((-3)))), (g2, IsI 2 (((-7)) % 3)), (g1, IsI 2 (((-7)) / 3))] := S2; clear S2 G2
  clear h44
  refine wpList_nil ?_
  go_upto_region 4 with (fail)
  have hl := hid S.lt; have hw := S.ext.size
  refine wp_region_rgs 10 [some 46, some 47, some 48, some 45, some 49, some 50, some 51, some 10, some 11, some 12] [IsI 2 0, IsI 2 ((-4)), IsT3 (IsI 2 4) (IsI 2 0) (IsI 5 (-1)), IsT3 (IsI 2 4) (IsI 2 0) (IsI 5 (-1)), IsI 2 4, IsI 2 0, IsI 5 (-1), IsB W10, IsB W10, IsB W10] [7, 8, 9] (by decide) (by kernel_rfl) (by kernel_rfl) (by kernel_rfl) ?_ ?_ ?_ ?_
  · repeat' (first | exact trivial | exact IsV.stb _ | exact IsI.stb _ _ | exact IsB.stb _ | exact IsR.stb _ _ | exact IsMag.stb _ _ | exact IsPos.stb | apply IsT3.stb | apply IsT2.stb | apply And.intro)
  · intro i hi; simp only [List.mem_cons, List.not_mem_nil, or_false] at hi; rcases hi with rfl | rfl | rfl <;> exact IsB.box _
  · refine RgAll.cons (by { (with_reducible refine RgL.mk (by rfl) ?_); intro v a w' hE hd hf; skip; clear hd hf; intro K hK; go_simp; go_at_call 33; go_split_ands; (with_reducible refine Calls.mono (ROf_f _ 0 (by decide) (by decide)) ?_); rintro e w2 ⟨x, rfl, e2, hx⟩; exact hK.out _ _ e2 hx (FreshIf.no rfl) }) ?_
    refine RgAll.cons (by { (with_reducible refine RgL.mk (by rfl) ?_); intro v a w' hE hd hf; skip; clear hd hf; intro K hK; go_simp; go_at_call 33; go_split_ands; (with_reducible refine Calls.mono (ROf_f _ ((-4)) (by decide) (by decide)) ?_); rintro e w2 ⟨x, rfl, e2, hx⟩; exact hK.out _ _ e2 hx (FreshIf.no rfl) }) ?_
    refine RgAll.cons (by { (with_reducible refine RgL.mk (by rfl) ?_); intro v a w' hE hd hf; have d0 : (IsI 2 0) (v 0) w' := hd 0 (by kernel_rfl); have ev0 := hf.val 0 46 _ rfl (by kernel_rfl) (by kernel_rfl) (by kernel_rfl); have d1 : (IsI 2 ((-4))) (v 1) w' := hd 1 (by kernel_rfl); have ev1 := hf.val 1 47 _ rfl (by kernel_rfl) (by kernel_rfl) (by kernel_rfl); clear hd hf; intro K hK; go_simp; go_at_call 18; go_split_ands; (with_reducible refine Calls.mono (Bezout_v d0 d1 (by decide) (by decide) 4 0 (-1) (by decide) (by decide) (by decide) (by decide) (by decide)) ?_); rintro e w2 ⟨x, rfl, e2, hx⟩; exact hK.out _ _ e2 hx (FreshIf.no rfl) }) ?_
    refine RgAll.cons (by { (with_reducible refine RgL.mk (by rfl) ?_); intro v a w' hE hd hf; have d0 : (IsT3 (IsI 2 4) (IsI 2 0) (IsI 5 (-1))) (v 2) w' := hd 2 (by kernel_rfl); have ev0 := hf.val 2 48 _ rfl (by kernel_rfl) (by kernel_rfl) (by kernel_rfl); clear hd hf; intro K hK; go_simp; exact hK.out _ _ (Ext.refl _) d0 (FreshIf.no rfl) }) ?_
    refine RgAll.cons (by { (with_reducible refine RgL.mk (by rfl) ?_); intro v a w' hE hd hf; have d0 : (IsT3 (IsI 2 4) (IsI 2 0) (IsI 5 (-1))) (v 3) w' := hd 3 (by kernel_rfl); obtain ⟨x0, x1, x2, z0, y0, y1, y2⟩ := d0; have ev0 := hf.val 3 45 _ z0 (by kernel_rfl) (by kernel_rfl) (by kernel_rfl); clear z0; clear hd hf; intro K hK; go_simp; exact hK.out _ _ (Ext.refl _) y0 (FreshIf.no rfl) }) ?_
    refine RgAll.cons (by { (with_reducible refine RgL.mk (by rfl) ?_); intro v a w' hE hd hf; have d0 : (IsT3 (IsI 2 4) (IsI 2 0) (IsI 5 (-1))) (v 3) w' := hd 3 (by kernel_rfl); obtain ⟨x0, x1, x2, z0, y0, y1, y2⟩ := d0; have ev0 := hf.val 3 45 _ z0 (by kernel_rfl) (by kernel_rfl) (by kernel_rfl); clear z0; clear hd hf; intro K hK; go_simp; exact hK.out _ _ (Ext.refl _) y1 (FreshIf.no rfl) }) ?_
    refine RgAll.cons (by { (with_reducible refine RgL.mk (by rfl) ?_); intro v a w' hE hd hf; have d0 : (IsT3 (IsI 2 4) (IsI 2 0) (IsI 5 (-1))) (v 3) w' := hd 3 (by kernel_rfl); obtain ⟨x0, x1, x2, z0, y0, y1, y2⟩ := d0; have ev0 := hf.val 3 45 _ z0 (by kernel_rfl) (by kernel_rfl) (by kernel_rfl); clear z0; clear hd hf; intro K hK; go_simp; exact hK.out _ _ (Ext.refl _) y2 (FreshIf.no rfl) }) ?_
    refine RgAll.cons (by { (with_reducible refine RgL.mk (by rfl) ?_); intro v a w' hE hd hf; skip; clear hd hf; intro K hK; go_simp; refine hK.out _ _ ((Ext.refl _).alloc _) ⟨_, rfl, hE.size, Bx.new _ _ _ _ _⟩ FreshIf.yes }) ?_
    refine RgAll.cons (by { (with_reducible refine RgL.mk (by rfl) ?_); intro v a w' hE hd hf; skip; clear hd hf; intro K hK; go_simp; refine hK.out _ _ ((Ext.refl _).alloc _) ⟨_, rfl, hE.size, Bx.new _ _ _ _ _⟩ FreshIf.yes }) ?_
    refine RgAll.cons (by { (with_reducible refine RgL.mk (by rfl) ?_); intro v a w' hE hd hf; skip; clear hd hf; intro K hK; go_simp; refine hK.out _ _ ((Ext.refl _).alloc _) ⟨_, rfl, hE.size, Bx.new _ _ _ _ _⟩ FreshIf.yes }) ?_
    exact RgAll.nil
  intro v W11 e1 hΦ hne
  replace S := S.mono e1
  obtain ⟨s49, a49, n49, c49, v4, h49⟩ := (hΦ 4 (by decide) : IsI 2 4 (v 4) W11)
  obtain ⟨s50, a50, n50, c50, v5, h50⟩ := (hΦ 5 (by decide) : IsI 2 0 (v 5) W11)
  obtain ⟨s51, a51, n51, c51, v6, h51⟩ := (hΦ 6 (by decide) : IsI 5 (-1) (v 6) W11)
  obtain ⟨g10, v7, q16, b15⟩ := (hΦ 7 (by decide) : IsB W10 (v 7) W11)
  replace S := S.addN (Apart.old hl.out q16) (Nat.le_trans hw q16) b15
  clear b15
  obtain ⟨g11, v8, q18, b17⟩ := (hΦ 8 (by decide) : IsB W10 (v 8) W11)
  replace S := S.addN (Apart.cons (fun h => hne 7 8 (by decide) (by decide) (by decide) (by decide) (by decide) (by rw [v7, v8, h])) (Apart.old hl.out q18)) (Nat.le_trans hw q18) b17
  clear b17
  obtain ⟨g12, v9, q20, b19⟩ := (hΦ 9 (by decide) : IsB W10 (v 9) W11)
  replace S := S.addN (Apart.cons (fun h => hne 8 9 (by decide) (by decide) (by decide) (by decide) (by decide) (by rw [v8, v9, h])) (Apart.cons (fun h => hne 7 9 (by decide) (by decide) (by decide) (by decide) (by decide) (by rw [v7, v9, h])) (Apart.old hl.out q20))) (Nat.le_trans hw q20) b19
  clear b19
  clear hne
  simp only [layL, Act.put, List.setIfInBounds_toArray, List.set_cons_zero, List.set_cons_succ, Nat.reduceAdd]
  rw [v4, v5, v6, v7, v8, v9]
  clear v4 v5 v6 v7 v8 v9
  clear hΦ
  clear hl hw
  clear e1
  obtain ⟨s8, a8, n8, c8, b8, _⟩ := S.at 2 (g10) (IsI 0 0) rfl; have F1 := b8.c0; have F2 := b8.c1; have F3 := b8.f0; have F4 := b8.f1
  refine wpList_step fun K hK => ?_; go_simp; refine hK _ _ ?_; clear hK K
  clear F1 F2 F3 F4 b8
  obtain ⟨W12, hW, S2, G2, _⟩ := S.put 2 (g10) (IsI 0 0) (IsI 2 4) rfl s49 a49 n49 c49 (IsI.gstb _ _) ⟨_, _, _, _, rfl, h49⟩
  rw [← hW]; clear hW S
  replace h50 := h50.gr G2
  replace h51 := h51.gr G2
  have S : St w W12 [(g12, IsI 0 0), (g11, IsI 0 0), (g10, IsI 2 4), (g9, IsI 5 (-1)), (g8, IsI 2 2), (g7, IsI 2 6), (g5, IsI 2 (((-7)) % ((-3)))), (g4, IsI 2 (((-7)) / ((-3)))), (g2, IsI 2 (((-7)) % 3)), (g1, IsI 2 (((-7)) / 3))] := S2; clear S2 G2
  clear h49
  obtain ⟨s8, a8, n8, c8, b8, _⟩ := S.at 1 (g11) (IsI 0 0) rfl; have F1 := b8.c0; have F2 := b8.c1; have F3 := b8.f0; have F4 := b8.f1
  refine wpList_step fun K hK => ?_; go_simp; refine hK _ _ ?_; clear hK K
  clear F1 F2 F3 F4 b8
  obtain ⟨W13, hW, S2, G2, _⟩ := S.put 1 (g11) (IsI 0 0) (IsI 2 0) rfl s50 a50 n50 c50 (IsI.gstb _ _) ⟨_, _, _, _, rfl, h50⟩
  rw [← hW]; clear hW S
  replace h51 := h51.gr G2
  have S : St w W13 [(g12, IsI 0 0), (g11, IsI 2 0), (g10, IsI 2 4), (g9, IsI 5 (-1)), (g8, IsI 2 2), (g7, IsI 2 6), (g5, IsI 2 (((-7)) % ((-3)))), (g4, IsI 2 (((-7)) / ((-3)))), (g2, IsI 2 (((-7)) % 3)), (g1, IsI 2 (((-7)) / 3))] := S2; clear S2 G2
  clear h50
  obtain ⟨s8, a8, n8, c8, b8, _⟩ := S.at 0 (g12) (IsI 0 0) rfl; have F1 := b8.c0; have F2 := b8.c1; have F3 := b8.f0; have F4 := b8.f1
  refine wpList_step fun K hK => ?_; go_simp; refine hK _ _ ?_; clear hK K
  clear F1 F2 F3 F4 b8
  obtain ⟨W14, hW, S2, G2, _⟩ := S.put 0 (g12) (IsI 0 0) (IsI 5 (-1)) rfl s51 a51 n51 c51 (IsI.gstb _ _) ⟨_, _, _, _, rfl, h51⟩
  rw [← hW]; clear hW S
  have S : St w W14 [(g12, IsI 5 (-1)), (g11, IsI 2 0), (g10, IsI 2 4), (g9, IsI 5 (-1)), (g8, IsI 2 2), (g7, IsI 2 6), (g5, IsI 2 (((-7)) % ((-3)))), (g4, IsI 2 (((-7)) / ((-3)))), (g2, IsI 2 (((-7)) % 3)), (g1, IsI 2 (((-7)) / 3))] := S2; clear S2 G2
  clear h51
  refine wpList_nil ?_
  go_upto_region 5 with (fail)
  have hl := hid S.lt; have hw := S.ext.size
  refine wp_region_rgs 8 [some 53, some 54, some 52, some 55, some 56, some 57, some 13, some 14] [IsI 2 10, IsT3 (IsI 2 (((3 : Nat) : Int))) (IsI 2 (10 - ((3 : Nat) : Int) * ((3 : Nat) : Int))) (IsV (.int .i64 0)), IsT3 (IsI 2 (((3 : Nat) : Int))) (IsI 2 (10 - ((3 : Nat) : Int) * ((3 : Nat) : Int))) (IsV (.int .i64 0)), IsI 2 (((3 : Nat) : Int)), IsI 2 (10 - ((3 : Nat) : Int) * ((3 : Nat) : Int)), IsV (.int .i64 0), IsB W14, IsB W14] [6, 7] (by decide) (by kernel_rfl) (by kernel_rfl) (by kernel_rfl) ?_ ?_ ?_ ?_
  · repeat' (first | exact trivial | exact IsV.stb _ | exact IsI.stb _ _ | exact IsB.stb _ | exact IsR.stb _ _ | exact IsMag.stb _ _ | exact IsPos.stb | apply IsT3.stb | apply IsT2.stb | apply And.intro)
  · intro i hi; simp only [List.mem_cons, List.not_mem_nil, or_false] at hi; rcases hi with rfl | rfl <;> exact IsB.box _
  · refine RgAll.cons (by { (with_reducible refine RgL.mk (by rfl) ?_); intro v a w' hE hd hf; skip; clear hd hf; intro K hK; go_simp; go_at_call 33; go_split_ands; (with_reducible refine Calls.mono (ROf_f _ 10 (by decide) (by decide)) ?_); rintro e w2 ⟨x, rfl, e2, hx⟩; exact hK.out _ _ e2 hx (FreshIf.no rfl) }) ?_
    refine RgAll.cons (by { (with_reducible refine RgL.mk (by rfl) ?_); intro v a w' hE hd hf; have d0 : (IsI 2 10) (v 0) w' := hd 0 (by kernel_rfl); have ev0 := hf.val 0 53 _ rfl (by kernel_rfl) (by kernel_rfl) (by kernel_rfl); clear hd hf; intro K hK; go_simp; go_at_call 24; go_split_ands; (with_reducible refine Calls.mono (Sqrt_f d0 (by decide) (by decide) 3 (by unfold IsRoot; decide)) ?_); rintro e w2 ⟨x, rfl, e2, hx⟩; exact hK.out _ _ e2 hx (FreshIf.no rfl) }) ?_
    refine RgAll.cons (by { (with_reducible refine RgL.mk (by rfl) ?_); intro v a w' hE hd hf; have d0 : (IsT3 (IsI 2 (((3 : Nat) : Int))) (IsI 2 (10 - ((3 : Nat) : Int) * ((3 : Nat) : Int))) (IsV (.int .i64 0))) (v 1) w' := hd 1 (by kernel_rfl); have ev0 := hf.val 1 54 _ rfl (by kernel_rfl) (by kernel_rfl) (by kernel_rfl); clear hd hf; intro K hK; go_simp; exact hK.out _ _ (Ext.refl _) d0 (FreshIf.no rfl) }) ?_
    refine RgAll.cons (by { (with_reducible refine RgL.mk (by rfl) ?_); intro v a w' hE hd hf; have d0 : (IsT3 (IsI 2 (((3 : Nat) : Int))) (IsI 2 (10 - ((3 : Nat) : Int) * ((3 : Nat) : Int))) (IsV (.int .i64 0))) (v 2) w' := hd 2 (by kernel_rfl); obtain ⟨x0, x1, x2, z0, y0, y1, y2⟩ := d0; have ev0 := hf.val 2 52 _ z0 (by kernel_rfl) (by kernel_rfl) (by kernel_rfl); clear z0; clear hd hf; intro K hK; go_simp; exact hK.out _ _ (Ext.refl _) y0 (FreshIf.no rfl) }) ?_
    refine RgAll.cons (by { (with_reducible refine RgL.mk (by rfl) ?_); intro v a w' hE hd hf; have d0 : (IsT3 (IsI 2 (((3 : Nat) : Int))) (IsI 2 (10 - ((3 : Nat) : Int) * ((3 : Nat) : Int))) (IsV (.int .i64 0))) (v 2) w' := hd 2 (by kernel_rfl); obtain ⟨x0, x1, x2, z0, y0, y1, y2⟩ := d0; have ev0 := hf.val 2 52 _ z0 (by kernel_rfl) (by kernel_rfl) (by kernel_rfl); clear z0; clear hd hf; intro K hK; go_simp; exact hK.out _ _ (Ext.refl _) y1 (FreshIf.no rfl) }) ?_
    refine RgAll.cons (by { (with_reducible refine RgL.mk (by rfl) ?_); intro v a w' hE hd hf; have d0 : (IsT3 (IsI 2 (((3 : Nat) : Int))) (IsI 2 (10 - ((3 : Nat) : Int) * ((3 : Nat) : Int))) (IsV (.int .i64 0))) (v 2) w' := hd 2 (by kernel_rfl); obtain ⟨x0, x1, x2, z0, y0, y1, y2⟩ := d0; have ev0 := hf.val 2 52 _ z0 (by kernel_rfl) (by kernel_rfl) (by kernel_rfl); clear z0; clear hd hf; intro K hK; go_simp; exact hK.out _ _ (Ext.refl _) y2 (FreshIf.no rfl) }) ?_
    refine RgAll.cons (by { (with_reducible refine RgL.mk (by rfl) ?_); intro v a w' hE hd hf; skip; clear hd hf; intro K hK; go_simp; refine hK.out _ _ ((Ext.refl _).alloc _) ⟨_, rfl, hE.size, Bx.new _ _ _ _ _⟩ FreshIf.yes }) ?_
    refine RgAll.cons (by { (with_reducible refine RgL.mk (by rfl) ?_); intro v a w' hE hd hf; skip; clear hd hf; intro K hK; go_simp; refine hK.out _ _ ((Ext.refl _).alloc _) ⟨_, rfl, hE.size, Bx.new _ _ _ _ _⟩ FreshIf.yes }) ?_
    exact RgAll.nil
  intro v W15 e1 hΦ hne
  replace S := S.mono e1
  obtain ⟨s55, a55, n55, c55, v3, h55⟩ := (hΦ 3 (by decide) : IsI 2 (((3 : Nat) : Int)) (v 3) W15)
  obtain ⟨s56, a56, n56, c56, v4, h56⟩ := (hΦ 4 (by decide) : IsI 2 (10 - ((3 : Nat) : Int) * ((3 : Nat) : Int)) (v 4) W15)
  have v5 : v 5 = .int .i64 0 := hΦ 5 (by decide)
  obtain ⟨g13, v6, q22, b21⟩ := (hΦ 6 (by decide) : IsB W14 (v 6) W15)
  replace S := S.addN (Apart.old hl.out q22) (Nat.le_trans hw q22) b21
  clear b21
  obtain ⟨g14, v7, q24, b23⟩ := (hΦ 7 (by decide) : IsB W14 (v 7) W15)
  replace S := S.addN (Apart.cons (fun h => hne 6 7 (by decide) (by decide) (by decide) (by decide) (by decide) (by rw [v6, v7, h])) (Apart.old hl.out q24)) (Nat.le_trans hw q24) b23
  clear b23
  clear hne
  simp only [layL, Act.put, List.setIfInBounds_toArray, List.set_cons_zero, List.set_cons_succ, Nat.reduceAdd]
  rw [v3, v4, v5, v6, v7]
  clear v3 v4 v5 v6 v7
  clear hΦ
  clear hl hw
  clear e1
  obtain ⟨s8, a8, n8, c8, b8, _⟩ := S.at 1 (g13) (IsI 0 0) rfl; have F1 := b8.c0; have F2 := b8.c1; have F3 := b8.f0; have F4 := b8.f1
  refine wpList_step fun K hK => ?_; go_simp; refine hK _ _ ?_; clear hK K
  clear F1 F2 F3 F4 b8
  obtain ⟨W16, hW, S2, G2, _⟩ := S.put 1 (g13) (IsI 0 0) (IsI 2 (((3 : Nat) : Int))) rfl s55 a55 n55 c55 (IsI.gstb _ _) ⟨_, _, _, _, rfl, h55⟩
  rw [← hW]; clear hW S
  replace h56 := h56.gr G2
  have S : St w W16 [(g14, IsI 0 0), (g13, IsI 2 (((3 : Nat) : Int))), (g12, IsI 5 (-1)), (g11, IsI 2 0), (g10, IsI 2 4), (g9, IsI 5 (-1)), (g8, IsI 2 2), (g7, IsI 2 6), (g5, IsI 2 (((-7)) % ((-3)))), (g4, IsI 2 (((-7)) / ((-3)))), (g2, IsI 2 (((-7)) % 3)), (g1, IsI 2 (((-7)) / 3))] := S2; clear S2 G2
  clear h55
  obtain ⟨s8, a8, n8, c8, b8, _⟩ := S.at 0 (g14) (IsI 0 0) rfl; have F1 := b8.c0; have F2 := b8.c1; have F3 := b8.f0; have F4 := b8.f1
  refine wpList_step fun K hK => ?_; go_simp; refine hK _ _ ?_; clear hK K
  clear F1 F2 F3 F4 b8
  obtain ⟨W17, hW, S2, G2, _⟩ := S.put 0 (g14) (IsI 0 0) (IsI 2 (10 - ((3 : Nat) : Int) * ((3 : Nat) : Int))) rfl s56 a56 n56 c56 (IsI.gstb _ _) ⟨_, _, _, _, rfl, h56⟩
  rw [← hW]; clear hW S
  have S : St w W17 [(g14, IsI 2 (10 - ((3 : Nat) : Int) * ((3 : Nat) : Int))), (g13, IsI 2 (((3 : Nat) : Int))), (g12, IsI 5 (-1)), (g11, IsI 2 0), (g10, IsI 2 4), (g9, IsI 5 (-1)), (g8, IsI 2 2), (g7, IsI 2 6), (g5, IsI 2 (((-7)) % ((-3)))), (g4, IsI 2 (((-7)) / ((-3)))), (g2, IsI 2 (((-7)) % 3)), (g1, IsI 2 (((-7)) / 3))] := S2; clear S2 G2
  clear h56
  refine wpList_step fun K hK => ?_; go_simp; refine hK _ _ ?_; clear hK K
  refine wpList_nil ?_
  go_upto_region 6 with (fail)
  have hl := hid S.lt; have hw := S.ext.size
  refine wp_region_rgs 6 [some 59, some 60, some 58, some 61, some 62, some 16] [IsI 2 999, IsT2 (IsI 2 (((9 : Nat) : Int))) (IsV (.int .i64 0)), IsT2 (IsI 2 (((9 : Nat) : Int))) (IsV (.int .i64 0)), IsI 2 (((9 : Nat) : Int)), IsV (.int .i64 0), IsB W17] [5] (by decide) (by kernel_rfl) (by kernel_rfl) (by kernel_rfl) ?_ ?_ ?_ ?_
  · repeat' (first | exact trivial | exact IsV.stb _ | exact IsI.stb _ _ | exact IsB.stb _ | exact IsR.stb _ _ | exact IsMag.stb _ _ | exact IsPos.stb | apply IsT3.stb | apply IsT2.stb | apply And.intro)
  · intro i hi; simp only [List.mem_cons, List.not_mem_nil, or_false] at hi; subst hi; exact IsB.box _
  · refine RgAll.cons (by { (with_reducible refine RgL.mk (by rfl) ?_); intro v a w' hE hd hf; skip; clear hd hf; intro K hK; go_simp; go_at_call 33; go_split_ands; (with_reducible refine Calls.mono (ROf_f _ 999 (by decide) (by decide)) ?_); rintro e w2 ⟨x, rfl, e2, hx⟩; exact hK.out _ _ e2 hx (FreshIf.no rfl) }) ?_
    refine RgAll.cons (by { (with_reducible refine RgL.mk (by rfl) ?_); intro v a w' hE hd hf; have d0 : (IsI 2 999) (v 0) w' := hd 0 (by kernel_rfl); have ev0 := hf.val 0 59 _ rfl (by kernel_rfl) (by kernel_rfl) (by kernel_rfl); clear hd hf; intro K hK; go_simp; go_at_call 21; go_split_ands; (with_reducible refine Calls.mono (Root_f d0 (by decide) (by decide) 3 (by decide) (by decide) 9 (by unfold IsRoot; decide)) ?_); rintro e w2 ⟨x, rfl, e2, hx⟩; exact hK.out _ _ e2 hx (FreshIf.no rfl) }) ?_
    refine RgAll.cons (by { (with_reducible refine RgL.mk (by rfl) ?_); intro v a w' hE hd hf; have d0 : (IsT2 (IsI 2 (((9 : Nat) : Int))) (IsV (.int .i64 0))) (v 1) w' := hd 1 (by kernel_rfl); have ev0 := hf.val 1 60 _ rfl (by kernel_rfl) (by kernel_rfl) (by kernel_rfl); clear hd hf; intro K hK; go_simp; exact hK.out _ _ (Ext.refl _) d0 (FreshIf.no rfl) }) ?_
    refine RgAll.cons (by { (with_reducible refine RgL.mk (by rfl) ?_); intro v a w' hE hd hf; have d0 : (IsT2 (IsI 2 (((9 : Nat) : Int))) (IsV (.int .i64 0))) (v 2) w' := hd 2 (by kernel_rfl); obtain ⟨x0, x1, z0, y0, y1⟩ := d0; have ev0 := hf.val 2 58 _ z0 (by kernel_rfl) (by kernel_rfl) (by kernel_rfl); clear z0; clear hd hf; intro K hK; go_simp; exact hK.out _ _ (Ext.refl _) y0 (FreshIf.no rfl) }) ?_
    refine RgAll.cons (by { (with_reducible refine RgL.mk (by rfl) ?_); intro v a w' hE hd hf; have d0 : (IsT2 (IsI 2 (((9 : Nat) : Int))) (IsV (.int .i64 0))) (v 2) w' := hd 2 (by kernel_rfl); obtain ⟨x0, x1, z0, y0, y1⟩ := d0; have ev0 := hf.val 2 58 _ z0 (by kernel_rfl) (by kernel_rfl) (by kernel_rfl); clear z0; clear hd hf; intro K hK; go_simp; exact hK.out _ _ (Ext.refl _) y1 (FreshIf.no rfl) }) ?_
    refine RgAll.cons (by { (with_reducible refine RgL.mk (by rfl) ?_); intro v a w' hE hd hf; skip; clear hd hf; intro K hK; go_simp; refine hK.out _ _ ((Ext.refl _).alloc _) ⟨_, rfl, hE.size, Bx.new _ _ _ _ _⟩ FreshIf.yes }) ?_
    exact RgAll.nil
  intro v W18 e1 hΦ _
  replace S := S.mono e1
  obtain ⟨s61, a61, n61, c61, v3, h61⟩ := (hΦ 3 (by decide) : IsI 2 (((9 : Nat) : Int)) (v 3) W18)
  have v4 : v 4 = .int .i64 0 := hΦ 4 (by decide)
  obtain ⟨g16, v5, q26, b25⟩ := (hΦ 5 (by decide) : IsB W17 (v 5) W18)
  replace S := S.addN (Apart.old hl.out q26) (Nat.le_trans hw q26) b25
  clear b25
  simp only [layL, Act.put, List.setIfInBounds_toArray, List.set_cons_zero, List.set_cons_succ, Nat.reduceAdd]
  rw [v3, v4, v5]
  clear v3 v4 v5
  clear hΦ
  clear hl hw
  clear e1
  obtain ⟨s8, a8, n8, c8, b8, _⟩ := S.at 0 (g16) (IsI 0 0) rfl; have F1 := b8.c0; have F2 := b8.c1; have F3 := b8.f0; have F4 := b8.f1
  refine wpList_step fun K hK => ?_; go_simp; refine hK _ _ ?_; clear hK K
  clear F1 F2 F3 F4 b8
  obtain ⟨W19, hW, S2, G2, _⟩ := S.put 0 (g16) (IsI 0 0) (IsI 2 (((9 : Nat) : Int))) rfl s61 a61 n61 c61 (IsI.gstb _ _) ⟨_, _, _, _, rfl, h61⟩
  rw [← hW]; clear hW S
  have S : St w W19 [(g16, IsI 2 (((9 : Nat) : Int))), (g14, IsI 2 (10 - ((3 : Nat) : Int) * ((3 : Nat) : Int))), (g13, IsI 2 (((3 : Nat) : Int))), (g12, IsI 5 (-1)), (g11, IsI 2 0), (g10, IsI 2 4), (g9, IsI 5 (-1)), (g8, IsI 2 2), (g7, IsI 2 6), (g5, IsI 2 (((-7)) % ((-3)))), (g4, IsI 2 (((-7)) / ((-3)))), (g2, IsI 2 (((-7)) % 3)), (g1, IsI 2 (((-7)) / 3))] := S2; clear S2 G2
  clear h61
  refine wpList_step fun K hK => ?_; go_simp; refine hK _ _ ?_; clear hK K
  refine wpList_nil ?_
  go_upto_region 7 with (fail)
  have hl := hid S.lt; have hw := S.ext.size
  refine wp_region_rgs 6 [some 64, some 65, some 63, some 66, some 67, some 18] [IsI 2 ((-2)), IsT2 (IsI 128 ((-2) ^ 3)) (IsV (.int .i64 0)), IsT2 (IsI 128 ((-2) ^ 3)) (IsV (.int .i64 0)), IsI 128 ((-2) ^ 3), IsV (.int .i64 0), IsB W19] [5] (by decide) (by kernel_rfl) (by kernel_rfl) (by kernel_rfl) ?_ ?_ ?_ ?_
  · repeat' (first | exact trivial | exact IsV.stb _ | exact IsI.stb _ _ | exact IsB.stb _ | exact IsR.stb _ _ | exact IsMag.stb _ _ | exact IsPos.stb | apply IsT3.stb | apply IsT2.stb | apply And.intro)
  · intro i hi; simp only [List.mem_cons, List.not_mem_nil, or_false] at hi; subst hi; exact IsB.box _
  · refine RgAll.cons (by { (with_reducible refine RgL.mk (by rfl) ?_); intro v a w' hE hd hf; skip; clear hd hf; intro K hK; go_simp; go_at_call 33; go_split_ands; (with_reducible refine Calls.mono (ROf_f _ ((-2)) (by decide) (by decide)) ?_); rintro e w2 ⟨x, rfl, e2, hx⟩; exact hK.out _ _ e2 hx (FreshIf.no rfl) }) ?_
    refine RgAll.cons (by { (with_reducible refine RgL.mk (by rfl) ?_); intro v a w' hE hd hf; have d0 : (IsI 2 ((-2))) (v 0) w' := hd 0 (by kernel_rfl); have ev0 := hf.val 0 64 _ rfl (by kernel_rfl) (by kernel_rfl) (by kernel_rfl); clear hd hf; intro K hK; go_simp; go_at_call 20; go_split_ands; (with_reducible refine Calls.mono (Pow_f d0 (by decide) 3 (by decide) (by decide) (by decide)) ?_); rintro e w2 ⟨x, rfl, e2, hx⟩; exact hK.out _ _ e2 hx (FreshIf.no rfl) }) ?_
    refine RgAll.cons (by { (with_reducible refine RgL.mk (by rfl) ?_); intro v a w' hE hd hf; have d0 : (IsT2 (IsI 128 ((-2) ^ 3)) (IsV (.int .i64 0))) (v 1) w' := hd 1 (by kernel_rfl); have ev0 := hf.val 1 65 _ rfl (by kernel_rfl) (by kernel_rfl) (by kernel_rfl); clear hd hf; intro K hK; go_simp; exact hK.out _ _ (Ext.refl _) d0 (FreshIf.no rfl) }) ?_
    refine RgAll.cons (by { (with_reducible refine RgL.mk (by rfl) ?_); intro v a w' hE hd hf; have d0 : (IsT2 (IsI 128 ((-2) ^ 3)) (IsV (.int .i64 0))) (v 2) w' := hd 2 (by kernel_rfl); obtain ⟨x0, x1, z0, y0, y1⟩ := d0; have ev0 := hf.val 2 63 _ z0 (by kernel_rfl) (by kernel_rfl) (by kernel_rfl); clear z0; clear hd hf; intro K hK; go_simp; exact hK.out _ _ (Ext.refl _) y0 (FreshIf.no rfl) }) ?_
    refine RgAll.cons (by { (with_reducible refine RgL.mk (by rfl) ?_); intro v a w' hE hd hf; have d0 : (IsT2 (IsI 128 ((-2) ^ 3)) (IsV (.int .i64 0))) (v 2) w' := hd 2 (by kernel_rfl); obtain ⟨x0, x1, z0, y0, y1⟩ := d0; have ev0 := hf.val 2 63 _ z0 (by kernel_rfl) (by kernel_rfl) (by kernel_rfl); clear z0; clear hd hf; intro K hK; go_simp; exact hK.out _ _ (Ext.refl _) y1 (FreshIf.no rfl) }) ?_
    refine RgAll.cons (by { (with_reducible refine RgL.mk (by rfl) ?_); intro v a w' hE hd hf; skip; clear hd hf; intro K hK; go_simp; refine hK.out _ _ ((Ext.refl _).alloc _) ⟨_, rfl, hE.size, Bx.new _ _ _ _ _⟩ FreshIf.yes }) ?_
    exact RgAll.nil
  intro v W20 e1 hΦ _
  replace S := S.mono e1
  obtain ⟨s66, a66, n66, c66, v3, h66⟩ := (hΦ 3 (by decide) : IsI 128 ((-2) ^ 3) (v 3) W20)
  have v4 : v 4 = .int .i64 0 := hΦ 4 (by decide)
  obtain ⟨g18, v5, q28, b27⟩ := (hΦ 5 (by decide) : IsB W19 (v 5) W20)
  replace S := S.addN (Apart.old hl.out q28) (Nat.le_trans hw q28) b27
  clear b27
  simp only [layL, Act.put, List.setIfInBounds_toArray, List.set_cons_zero, List.set_cons_succ, Nat.reduceAdd]
  rw [v3, v4, v5]
  clear v3 v4 v5
  clear hΦ
  clear hl hw
  clear e1
  obtain ⟨s8, a8, n8, c8, b8, _⟩ := S.at 0 (g18) (IsI 0 0) rfl; have F1 := b8.c0; have F2 := b8.c1; have F3 := b8.f0; have F4 := b8.f1
  refine wpList_step fun K hK => ?_; go_simp; refine hK _ _ ?_; clear hK K
  clear F1 F2 F3 F4 b8
  obtain ⟨W21, hW, S2, G2, _⟩ := S.put 0 (g18) (IsI 0 0) (IsI 128 ((-2) ^ 3)) rfl s66 a66 n66 c66 (IsI.gstb _ _) ⟨_, _, _, _, rfl, h66⟩
  rw [← hW]; clear hW S
  have S : St w W21 [(g18, IsI 128 ((-2) ^ 3)), (g16, IsI 2 (((9 : Nat) : Int))), (g14, IsI 2 (10 - ((3 : Nat) : Int) * ((3 : Nat) : Int))), (g13, IsI 2 (((3 : Nat) : Int))), (g12, IsI 5 (-1)), (g11, IsI 2 0), (g10, IsI 2 4), (g9, IsI 5 (-1)), (g8, IsI 2 2), (g7, IsI 2 6), (g5, IsI 2 (((-7)) % ((-3)))), (g4, IsI 2 (((-7)) / ((-3)))), (g2, IsI 2 (((-7)) % 3)), (g1, IsI 2 (((-7)) / 3))] := S2; clear S2 G2
  clear h66
  refine wpList_step fun K hK => ?_; go_simp; refine hK _ _ ?_; clear hK K
  refine wpList_nil ?_
  go_upto_region 8 with (fail)
  refine wp_region_rgs 7 [some 69, some 70, some 68, some 71, some 72, some 20, some 21] [IsI 2 ((-4294967296)), IsT2 (IsV (.string ⟨#[45, 52, 50, 57, 52, 57, 54, 55, 50, 57, 54]⟩)) (IsV (.int .i64 0)), IsT2 (IsV (.string ⟨#[45, 52, 50, 57, 52, 57, 54, 55, 50, 57, 54]⟩)) (IsV (.int .i64 0)), IsV (.string ⟨#[45, 52, 50, 57, 52, 57, 54, 55, 50, 57, 54]⟩), IsV (.int .i64 0), IsV (.string ⟨#[45, 52, 50, 57, 52, 57, 54, 55, 50, 57, 54]⟩), IsV (.int .i64 0)] [] (by decide) (by kernel_rfl) (by kernel_rfl) (by kernel_rfl) ?_ ?_ ?_ ?_
  · repeat' (first | exact trivial | exact IsV.stb _ | exact IsI.stb _ _ | exact IsB.stb _ | exact IsR.stb _ _ | exact IsMag.stb _ _ | exact IsPos.stb | apply IsT3.stb | apply IsT2.stb | apply And.intro)
  · exact (fun _ h => by cases h)
  · refine RgAll.cons (by { (with_reducible refine RgL.mk (by rfl) ?_); intro v a w' hE hd hf; skip; clear hd hf; intro K hK; go_simp; go_at_call 33; go_split_ands; (with_reducible refine Calls.mono (ROf_f _ ((-4294967296)) (by decide) (by decide)) ?_); rintro e w2 ⟨x, rfl, e2, hx⟩; exact hK.out _ _ e2 hx (FreshIf.no rfl) }) ?_
    refine RgAll.cons (by { (with_reducible refine RgL.mk (by rfl) ?_); intro v a w' hE hd hf; have d0 : (IsI 2 ((-4294967296))) (v 0) w' := hd 0 (by kernel_rfl); have ev0 := hf.val 0 69 _ rfl (by kernel_rfl) (by kernel_rfl) (by kernel_rfl); clear hd hf; intro K hK; go_simp; go_at_call 25; go_split_ands; (with_reducible refine Calls.mono (Calls.mono (Text_f d0 (by decide) (ht.ext (S.ext.trans hE))) fun _ _ h => (by have hh := h; rw [ex_text.1, ex_text.2] at hh; exact hh)) ?_); rintro e w2 ⟨x, rfl, e2, hx⟩; exact hK.out _ _ e2 hx (FreshIf.no rfl) }) ?_
    refine RgAll.cons (by { (with_reducible refine RgL.mk (by rfl) ?_); intro v a w' hE hd hf; have d0 : (IsT2 (IsV (.string ⟨#[45, 52, 50, 57, 52, 57, 54, 55, 50, 57, 54]⟩)) (IsV (.int .i64 0))) (v 1) w' := hd 1 (by kernel_rfl); have ev0 := hf.val 1 70 _ rfl (by kernel_rfl) (by kernel_rfl) (by kernel_rfl); clear hd hf; intro K hK; go_simp; exact hK.out _ _ (Ext.refl _) d0 (FreshIf.no rfl) }) ?_
    refine RgAll.cons (by { (with_reducible refine RgL.mk (by rfl) ?_); intro v a w' hE hd hf; have d0 : (IsT2 (IsV (.string ⟨#[45, 52, 50, 57, 52, 57, 54, 55, 50, 57, 54]⟩)) (IsV (.int .i64 0))) (v 2) w' := hd 2 (by kernel_rfl); obtain ⟨x0, x1, z0, y0, y1⟩ := d0; have ev0 := hf.val 2 68 _ z0 (by kernel_rfl) (by kernel_rfl) (by kernel_rfl); clear z0; clear hd hf; intro K hK; go_simp; exact hK.out _ _ (Ext.refl _) y0 (FreshIf.no rfl) }) ?_
    refine RgAll.cons (by { (with_reducible refine RgL.mk (by rfl) ?_); intro v a w' hE hd hf; have d0 : (IsT2 (IsV (.string ⟨#[45, 52, 50, 57, 52, 57, 54, 55, 50, 57, 54]⟩)) (IsV (.int .i64 0))) (v 2) w' := hd 2 (by kernel_rfl); obtain ⟨x0, x1, z0, y0, y1⟩ := d0; have ev0 := hf.val 2 68 _ z0 (by kernel_rfl) (by kernel_rfl) (by kernel_rfl); clear z0; clear hd hf; intro K hK; go_simp; exact hK.out _ _ (Ext.refl _) y1 (FreshIf.no rfl) }) ?_
    refine RgAll.cons (by { (with_reducible refine RgL.mk (by rfl) ?_); intro v a w' hE hd hf; have d0 : v 3 = .string ⟨#[45, 52, 50, 57, 52, 57, 54, 55, 50, 57, 54]⟩ := hd 3 (by kernel_rfl); have ev0 := hf.val 3 71 _ d0 (by kernel_rfl) (by kernel_rfl) (by kernel_rfl); clear d0; clear hd hf; intro K hK; go_simp; exact hK.out _ _ (Ext.refl _) rfl (FreshIf.no rfl) }) ?_
    refine RgAll.cons (by { (with_reducible refine RgL.mk (by rfl) ?_); intro v a w' hE hd hf; have d0 : v 4 = .int .i64 0 := hd 4 (by kernel_rfl); have ev0 := hf.val 4 72 _ d0 (by kernel_rfl) (by kernel_rfl) (by kernel_rfl); clear d0; clear hd hf; intro K hK; go_simp; exact hK.out _ _ (Ext.refl _) rfl (FreshIf.no rfl) }) ?_
    exact RgAll.nil
  intro v W22 e1 hΦ _
  replace S := S.mono e1
  have v5 : v 5 = .string ⟨#[45, 52, 50, 57, 52, 57, 54, 55, 50, 57, 54]⟩ := hΦ 5 (by decide)
  have v6 : v 6 = .int .i64 0 := hΦ 6 (by decide)
  simp only [layL, Act.put, List.setIfInBounds_toArray, List.set_cons_zero, List.set_cons_succ, Nat.reduceAdd]
  rw [v5, v6]
  clear v5 v6
  clear hΦ
  clear e1
  refine wpList_nil ?_
  go_upto_region 9 with (fail)
  have hl := hid S.lt; have hw := S.ext.size
  refine wp_region_rgs 5 [some 74, some 73, some 75, some 76, some 22] [IsT2 (IsI 0 0) (IsV (.int .i64 3)), IsT2 (IsI 0 0) (IsV (.int .i64 3)), IsI 0 0, IsV (.int .i64 3), IsB W22] [4] (by decide) (by kernel_rfl) (by kernel_rfl) (by kernel_rfl) ?_ ?_ ?_ ?_
  · repeat' (first | exact trivial | exact IsV.stb _ | exact IsI.stb _ _ | exact IsB.stb _ | exact IsR.stb _ _ | exact IsMag.stb _ _ | exact IsPos.stb | apply IsT3.stb | apply IsT2.stb | apply And.intro)
  · intro i hi; simp only [List.mem_cons, List.not_mem_nil, or_false] at hi; subst hi; exact IsB.box _
  · refine RgAll.cons (by { (with_reducible refine RgL.mk (by rfl) ?_); intro v a w' hE hd hf; skip; clear hd hf; intro K hK; go_simp; go_at_call 27; go_split_ands; (with_reducible refine Calls.mono (Parse_m0 _) ?_); rintro e w2 ⟨x, rfl, e2, hx⟩; exact hK.out _ _ e2 hx (FreshIf.no rfl) }) ?_
    refine RgAll.cons (by { (with_reducible refine RgL.mk (by rfl) ?_); intro v a w' hE hd hf; have d0 : (IsT2 (IsI 0 0) (IsV (.int .i64 3))) (v 0) w' := hd 0 (by kernel_rfl); have ev0 := hf.val 0 74 _ rfl (by kernel_rfl) (by kernel_rfl) (by kernel_rfl); clear hd hf; intro K hK; go_simp; exact hK.out _ _ (Ext.refl _) d0 (FreshIf.no rfl) }) ?_
    refine RgAll.cons (by { (with_reducible refine RgL.mk (by rfl) ?_); intro v a w' hE hd hf; have d0 : (IsT2 (IsI 0 0) (IsV (.int .i64 3))) (v 1) w' := hd 1 (by kernel_rfl); obtain ⟨x0, x1, z0, y0, y1⟩ := d0; have ev0 := hf.val 1 73 _ z0 (by kernel_rfl) (by kernel_rfl) (by kernel_rfl); clear z0; clear hd hf; intro K hK; go_simp; exact hK.out _ _ (Ext.refl _) y0 (FreshIf.no rfl) }) ?_
    refine RgAll.cons (by { (with_reducible refine RgL.mk (by rfl) ?_); intro v a w' hE hd hf; have d0 : (IsT2 (IsI 0 0) (IsV (.int .i64 3))) (v 1) w' := hd 1 (by kernel_rfl); obtain ⟨x0, x1, z0, y0, y1⟩ := d0; have ev0 := hf.val 1 73 _ z0 (by kernel_rfl) (by kernel_rfl) (by kernel_rfl); clear z0; clear hd hf; intro K hK; go_simp; exact hK.out _ _ (Ext.refl _) y1 (FreshIf.no rfl) }) ?_
    refine RgAll.cons (by { (with_reducible refine RgL.mk (by rfl) ?_); intro v a w' hE hd hf; skip; clear hd hf; intro K hK; go_simp; refine hK.out _ _ ((Ext.refl _).alloc _) ⟨_, rfl, hE.size, Bx.new _ _ _ _ _⟩ FreshIf.yes }) ?_
    exact RgAll.nil
  intro v W23 e1 hΦ _
  replace S := S.mono e1
  obtain ⟨s75, a75, n75, c75, v2, h75⟩ := (hΦ 2 (by decide) : IsI 0 0 (v 2) W23)
  have v3 : v 3 = .int .i64 3 := hΦ 3 (by decide)
  obtain ⟨g22, v4, q30, b29⟩ := (hΦ 4 (by decide) : IsB W22 (v 4) W23)
  replace S := S.addN (Apart.old hl.out q30) (Nat.le_trans hw q30) b29
  clear b29
  simp only [layL, Act.put, List.setIfInBounds_toArray, List.set_cons_zero, List.set_cons_succ, Nat.reduceAdd]
  rw [v2, v3, v4]
  clear v2 v3 v4
  clear hΦ
  clear hl hw
  clear e1
  obtain ⟨s8, a8, n8, c8, b8, _⟩ := S.at 0 (g22) (IsI 0 0) rfl; have F1 := b8.c0; have F2 := b8.c1; have F3 := b8.f0; have F4 := b8.f1
  refine wpList_step fun K hK => ?_; go_simp; refine hK _ _ ?_; clear hK K
  clear F1 F2 F3 F4 b8
  obtain ⟨W24, hW, S2, G2, _⟩ := S.put 0 (g22) (IsI 0 0) (IsI 0 0) rfl s75 a75 n75 c75 (IsI.gstb _ _) ⟨_, _, _, _, rfl, h75⟩
  rw [← hW]; clear hW S
  have S : St w W24 [(g22, IsI 0 0), (g18, IsI 128 ((-2) ^ 3)), (g16, IsI 2 (((9 : Nat) : Int))), (g14, IsI 2 (10 - ((3 : Nat) : Int) * ((3 : Nat) : Int))), (g13, IsI 2 (((3 : Nat) : Int))), (g12, IsI 5 (-1)), (g11, IsI 2 0), (g10, IsI 2 4), (g9, IsI 5 (-1)), (g8, IsI 2 2), (g7, IsI 2 6), (g5, IsI 2 (((-7)) % ((-3)))), (g4, IsI 2 (((-7)) / ((-3)))), (g2, IsI 2 (((-7)) % 3)), (g1, IsI 2 (((-7)) / 3))] := S2; clear S2 G2
  clear h75
  refine wpList_step fun K hK => ?_; go_simp; refine hK _ _ ?_; clear hK K
  refine wpList_nil ?_
  go_upto_region 12 with (fail)
  refine wp_region_rgs 65 (some 103 :: some 104 :: some 105 :: some 106 :: some 107 :: some 108 :: some 109 :: some 110 :: some 111 :: some 112 :: some 113 :: some 114 :: some 115 :: some 116 :: some 117 :: some 118 :: some 119 :: some 120 :: some 121 :: some 122 :: some 123 :: some 124 :: some 125 :: some 126 :: some 127 :: some 128 :: some 129 :: some 130 :: some 131 :: some 132 :: some 133 :: some 134 :: some 135 :: some 136 :: some 137 :: some 138 :: some 139 :: some 140 :: some 141 :: some 142 :: some 143 :: some 144 :: some 145 :: some 146 :: some 147 :: some 148 :: some 149 :: some 150 :: some 151 :: some 152 :: some 153 :: some 154 :: some 155 :: some 156 :: some 157 :: some 158 :: some 159 :: some 160 :: some 161 :: some 162 :: some 163 :: some 164 :: some 165 :: some 166 :: some 0 :: []) (IsI 2 (((-7)) / 3) :: IsV (.bool true) :: IsV (.bool true) :: IsI 2 (((-7)) % 3) :: IsV (.bool true) :: IsV (.bool true) :: IsV (.bool true) :: IsI 2 (((-7)) / ((-3))) :: IsV (.bool true) :: IsV (.bool true) :: IsV (.bool true) :: IsI 2 (((-7)) % ((-3))) :: IsV (.bool true) :: IsV (.bool true) :: IsV (.bool true) :: IsI 2 6 :: IsV (.bool true) :: IsV (.bool true) :: IsV (.bool true) :: IsI 2 2 :: IsV (.bool true) :: IsV (.bool true) :: IsV (.bool true) :: IsI 5 (-1) :: IsV (.bool true) :: IsV (.bool true) :: IsV (.bool true) :: IsI 2 4 :: IsV (.bool true) :: IsV (.bool true) :: IsV (.bool true) :: IsI 2 0 :: IsV (.bool true) :: IsV (.bool true) :: IsV (.bool true) :: IsI 5 (-1) :: IsV (.bool true) :: IsV (.bool true) :: IsV (.bool true) :: IsI 2 (((3 : Nat) : Int)) :: IsV (.bool true) :: IsV (.bool true) :: IsV (.bool true) :: IsI 2 (10 - ((3 : Nat) : Int) * ((3 : Nat) : Int)) :: IsV (.bool true) :: IsV (.bool true) :: IsV (.bool true) :: IsI 2 (((9 : Nat) : Int)) :: IsV (.bool true) :: IsV (.bool true) :: IsV (.bool true) :: IsI 128 ((-2) ^ 3) :: IsV (.bool true) :: IsV (.bool true) :: IsV (.bool true) :: IsV (.string ⟨#[45, 52, 50, 57, 52, 57, 54, 55, 50, 57, 54]⟩) :: IsV (.bool true) :: IsV (.bool true) :: IsV (.bool true) :: IsI 2 ((-12)) :: IsI 2 18 :: IsI 2 (Int.gcd ((-12)) 18) :: IsV (.bool true) :: IsV (.bool true) :: IsV (.bool true) :: []) [] (by decide) (by kernel_rfl) (by kernel_rfl) (by kernel_rfl) ?_ ?_ ?_ ?_
  · repeat' (first | exact trivial | exact IsV.stb _ | exact IsI.stb _ _ | exact IsB.stb _ | exact IsR.stb _ _ | exact IsMag.stb _ _ | exact IsPos.stb | apply IsT3.stb | apply IsT2.stb | apply And.intro)
  · exact (fun _ h => by cases h)
  · refine RgAll.cons (by { (with_reducible refine RgL.mk (by rfl) ?_); intro v a w' hE hd hf; have ev0 := hf.lit 1 (.pointer (some ⟨g1, 0, none⟩)) (by kernel_rfl) (by kernel_rfl); obtain ⟨s8, a8, n8, c8, b8, h8⟩ := (S.mono hE).at 14 (g1) (IsI 2 (((-7)) / 3)) rfl; have L0 := b8.c0; have L1 := b8.c1; clear hd hf; intro K hK; go_simp; exact hK.out _ _ (Ext.refl _) h8 (FreshIf.no rfl) }) ?_
    refine RgAll.cons (by { (with_reducible refine RgL.mk (by rfl) ?_); intro v a w' hE hd hf; have d0 : (IsI 2 (((-7)) / 3)) (v 0) w' := hd 0 (by kernel_rfl); have ev0 := hf.val 0 103 _ rfl (by kernel_rfl) (by kernel_rfl) (by kernel_rfl); clear hd hf; intro K hK; go_simp; go_at_call 34; go_split_ands; (with_reducible refine Calls.mono (is_t d0 ((-3)) (by decide) (by decide) (by decide) (by decide)) ?_); rintro e w2 ⟨x, rfl, e2, hx⟩; exact hK.out _ _ e2 hx (FreshIf.no rfl) }) ?_
    refine RgAll.cons (by { (with_reducible refine RgL.mk (by rfl) ?_); intro v a w' hE hd hf; have d0 : v 1 = .bool true := hd 1 (by kernel_rfl); have ev0 := hf.val 1 104 _ d0 (by kernel_rfl) (by kernel_rfl) (by kernel_rfl); clear d0; clear hd hf; intro K hK; go_simp; exact hK.out _ _ (Ext.refl _) rfl (FreshIf.no rfl) }) ?_
    refine RgAll.cons (by { (with_reducible refine RgL.mkG 2 105 true (by rfl) (by kernel_rfl) (by kernel_rfl) (by kernel_rfl) (by kernel_rfl) (by kernel_rfl) ?_ ?_); (focus (intro _ _ h; exact h)); intro v a w' hE hd hf; have ev0 := hf.lit 2 (.pointer (some ⟨g2, 0, none⟩)) (by kernel_rfl) (by kernel_rfl); obtain ⟨s8, a8, n8, c8, b8, h8⟩ := (S.mono hE).at 13 (g2) (IsI 2 (((-7)) % 3)) rfl; have L0 := b8.c0; have L1 := b8.c1; clear hd hf; intro K hK; go_simp; exact hK.out _ _ (Ext.refl _) h8 (FreshIf.no rfl) }) ?_
    refine RgAll.cons (by { (with_reducible refine RgL.mkG 2 105 true (by rfl) (by kernel_rfl) (by kernel_rfl) (by kernel_rfl) (by kernel_rfl) (by kernel_rfl) ?_ ?_); (focus (intro _ _ h; exact h)); intro v a w' hE hd hf; have d0 : (IsI 2 (((-7)) % 3)) (v 3) w' := hd 3 (by kernel_rfl); have ev0 := hf.val 3 106 _ rfl (by kernel_rfl) (by kernel_rfl) (by kernel_rfl); clear hd hf; intro K hK; go_simp; go_at_call 34; go_split_ands; (with_reducible refine Calls.mono (is_t d0 2 (by decide) (by decide) (by decide) (by decide)) ?_); rintro e w2 ⟨x, rfl, e2, hx⟩; exact hK.out _ _ e2 hx (FreshIf.no rfl) }) ?_
    refine RgAll.cons (by { (with_reducible refine RgL.mk (by rfl) ?_); intro v a w' hE hd hf; have d0 : v 2 = .bool true := hd 2 (by kernel_rfl); have ev0 := hf.val 2 105 _ d0 (by kernel_rfl) (by kernel_rfl) (by kernel_rfl); clear d0; have d1 : v 4 = .bool true := hd 4 (by kernel_rfl); have ev1 := hf.val 4 107 _ d1 (by kernel_rfl) (by kernel_rfl) (by kernel_rfl); clear d1; clear hd hf; intro K hK; go_simp; exact hK.out _ _ (Ext.refl _) rfl (FreshIf.no rfl) }) ?_
    refine RgAll.cons (by { (with_reducible refine RgL.mk (by rfl) ?_); intro v a w' hE hd hf; have d0 : v 5 = .bool true := hd 5 (by kernel_rfl); have ev0 := hf.val 5 108 _ d0 (by kernel_rfl) (by kernel_rfl) (by kernel_rfl); clear d0; clear hd hf; intro K hK; go_simp; exact hK.out _ _ (Ext.refl _) rfl (FreshIf.no rfl) }) ?_
    refine RgAll.cons (by { (with_reducible refine RgL.mkG 6 109 true (by rfl) (by kernel_rfl) (by kernel_rfl) (by kernel_rfl) (by kernel_rfl) (by kernel_rfl) ?_ ?_); (focus (intro _ _ h; exact h)); intro v a w' hE hd hf; have ev0 := hf.lit 4 (.pointer (some ⟨g4, 0, none⟩)) (by kernel_rfl) (by kernel_rfl); obtain ⟨s8, a8, n8, c8, b8, h8⟩ := (S.mono hE).at 12 (g4) (IsI 2 (((-7)) / ((-3)))) rfl; have L0 := b8.c0; have L1 := b8.c1; clear hd hf; intro K hK; go_simp; exact hK.out _ _ (Ext.refl _) h8 (FreshIf.no rfl) }) ?_
    refine RgAll.cons (by { (with_reducible refine RgL.mkG 6 109 true (by rfl) (by kernel_rfl) (by kernel_rfl) (by kernel_rfl) (by kernel_rfl) (by kernel_rfl) ?_ ?_); (focus (intro _ _ h; exact h)); intro v a w' hE hd hf; have d0 : (IsI 2 (((-7)) / ((-3)))) (v 7) w' := hd 7 (by kernel_rfl); have ev0 := hf.val 7 110 _ rfl (by kernel_rfl) (by kernel_rfl) (by kernel_rfl); clear hd hf; intro K hK; go_simp; go_at_call 34; go_split_ands; (with_reducible refine Calls.mono (is_t d0 3 (by decide) (by decide) (by decide) (by decide)) ?_); rintro e w2 ⟨x, rfl, e2, hx⟩; exact hK.out _ _ e2 hx (FreshIf.no rfl) }) ?_
    refine RgAll.cons (by { (with_reducible refine RgL.mk (by rfl) ?_); intro v a w' hE hd hf; have d0 : v 6 = .bool true := hd 6 (by kernel_rfl); have ev0 := hf.val 6 109 _ d0 (by kernel_rfl) (by kernel_rfl) (by kernel_rfl); clear d0; have d1 : v 8 = .bool true := hd 8 (by kernel_rfl); have ev1 := hf.val 8 111 _ d1 (by kernel_rfl) (by kernel_rfl) (by kernel_rfl); clear d1; clear hd hf; intro K hK; go_simp; exact hK.out _ _ (Ext.refl _) rfl (FreshIf.no rfl) }) ?_
    refine RgAll.cons (by { (with_reducible refine RgL.mk (by rfl) ?_); intro v a w' hE hd hf; have d0 : v 9 = .bool true := hd 9 (by kernel_rfl); have ev0 := hf.val 9 112 _ d0 (by kernel_rfl) (by kernel_rfl) (by kernel_rfl); clear d0; clear hd hf; intro K hK; go_simp; exact hK.out _ _ (Ext.refl _) rfl (FreshIf.no rfl) }) ?_
    refine RgAll.cons (by { (with_reducible refine RgL.mkG 10 113 true (by rfl) (by kernel_rfl) (by kernel_rfl) (by kernel_rfl) (by kernel_rfl) (by kernel_rfl) ?_ ?_); (focus (intro _ _ h; exact h)); intro v a w' hE hd hf; have ev0 := hf.lit 5 (.pointer (some ⟨g5, 0, none⟩)) (by kernel_rfl) (by kernel_rfl); obtain ⟨s8, a8, n8, c8, b8, h8⟩ := (S.mono hE).at 11 (g5) (IsI 2 (((-7)) % ((-3)))) rfl; have L0 := b8.c0; have L1 := b8.c1; clear hd hf; intro K hK; go_simp; exact hK.out _ _ (Ext.refl _) h8 (FreshIf.no rfl) }) ?_
    refine RgAll.cons (by { (with_reducible refine RgL.mkG 10 113 true (by rfl) (by kernel_rfl) (by kernel_rfl) (by kernel_rfl) (by kernel_rfl) (by kernel_rfl) ?_ ?_); (focus (intro _ _ h; exact h)); intro v a w' hE hd hf; have d0 : (IsI 2 (((-7)) % ((-3)))) (v 11) w' := hd 11 (by kernel_rfl); have ev0 := hf.val 11 114 _ rfl (by kernel_rfl) (by kernel_rfl) (by kernel_rfl); clear hd hf; intro K hK; go_simp; go_at_call 34; go_split_ands; (with_reducible refine Calls.mono (is_t d0 2 (by decide) (by decide) (by decide) (by decide)) ?_); rintro e w2 ⟨x, rfl, e2, hx⟩; exact hK.out _ _ e2 hx (FreshIf.no rfl) }) ?_
    refine RgAll.cons (by { (with_reducible refine RgL.mk (by rfl) ?_); intro v a w' hE hd hf; have d0 : v 10 = .bool true := hd 10 (by kernel_rfl); have ev0 := hf.val 10 113 _ d0 (by kernel_rfl) (by kernel_rfl) (by kernel_rfl); clear d0; have d1 : v 12 = .bool true := hd 12 (by kernel_rfl); have ev1 := hf.val 12 115 _ d1 (by kernel_rfl) (by kernel_rfl) (by kernel_rfl); clear d1; clear hd hf; intro K hK; go_simp; exact hK.out _ _ (Ext.refl _) rfl (FreshIf.no rfl) }) ?_
    refine RgAll.cons (by { (with_reducible refine RgL.mk (by rfl) ?_); intro v a w' hE hd hf; have d0 : v 13 = .bool true := hd 13 (by kernel_rfl); have ev0 := hf.val 13 116 _ d0 (by kernel_rfl) (by kernel_rfl) (by kernel_rfl); clear d0; clear hd hf; intro K hK; go_simp; exact hK.out _ _ (Ext.refl _) rfl (FreshIf.no rfl) }) ?_
    refine RgAll.cons (by { (with_reducible refine RgL.mkG 14 117 true (by rfl) (by kernel_rfl) (by kernel_rfl) (by kernel_rfl) (by kernel_rfl) (by kernel_rfl) ?_ ?_); (focus (intro _ _ h; exact h)); intro v a w' hE hd hf; have ev0 := hf.lit 7 (.pointer (some ⟨g7, 0, none⟩)) (by kernel_rfl) (by kernel_rfl); obtain ⟨s8, a8, n8, c8, b8, h8⟩ := (S.mono hE).at 10 (g7) (IsI 2 6) rfl; have L0 := b8.c0; have L1 := b8.c1; clear hd hf; intro K hK; go_simp; exact hK.out _ _ (Ext.refl _) h8 (FreshIf.no rfl) }) ?_
    refine RgAll.cons (by { (with_reducible refine RgL.mkG 14 117 true (by rfl) (by kernel_rfl) (by kernel_rfl) (by kernel_rfl) (by kernel_rfl) (by kernel_rfl) ?_ ?_); (focus (intro _ _ h; exact h)); intro v a w' hE hd hf; have d0 : (IsI 2 6) (v 15) w' := hd 15 (by kernel_rfl); have ev0 := hf.val 15 118 _ rfl (by kernel_rfl) (by kernel_rfl) (by kernel_rfl); clear hd hf; intro K hK; go_simp; go_at_call 34; go_split_ands; (with_reducible refine Calls.mono (is_t d0 6 (by decide) (by decide) (by decide) (by decide)) ?_); rintro e w2 ⟨x, rfl, e2, hx⟩; exact hK.out _ _ e2 hx (FreshIf.no rfl) }) ?_
    refine RgAll.cons (by { (with_reducible refine RgL.mk (by rfl) ?_); intro v a w' hE hd hf; have d0 : v 14 = .bool true := hd 14 (by kernel_rfl); have ev0 := hf.val 14 117 _ d0 (by kernel_rfl) (by kernel_rfl) (by kernel_rfl); clear d0; have d1 : v 16 = .bool true := hd 16 (by kernel_rfl); have ev1 := hf.val 16 119 _ d1 (by kernel_rfl) (by kernel_rfl) (by kernel_rfl); clear d1; clear hd hf; intro K hK; go_simp; exact hK.out _ _ (Ext.refl _) rfl (FreshIf.no rfl) }) ?_
    refine RgAll.cons (by { (with_reducible refine RgL.mk (by rfl) ?_); intro v a w' hE hd hf; have d0 : v 17 = .bool true := hd 17 (by kernel_rfl); have ev0 := hf.val 17 120 _ d0 (by kernel_rfl) (by kernel_rfl) (by kernel_rfl); clear d0; clear hd hf; intro K hK; go_simp; exact hK.out _ _ (Ext.refl _) rfl (FreshIf.no rfl) }) ?_
    refine RgAll.cons (by { (with_reducible refine RgL.mkG 18 121 true (by rfl) (by kernel_rfl) (by kernel_rfl) (by kernel_rfl) (by kernel_rfl) (by kernel_rfl) ?_ ?_); (focus (intro _ _ h; exact h)); intro v a w' hE hd hf; have ev0 := hf.lit 8 (.pointer (some ⟨g8, 0, none⟩)) (by kernel_rfl) (by kernel_rfl); obtain ⟨s8, a8, n8, c8, b8, h8⟩ := (S.mono hE).at 9 (g8) (IsI 2 2) rfl; have L0 := b8.c0; have L1 := b8.c1; clear hd hf; intro K hK; go_simp; exact hK.out _ _ (Ext.refl _) h8 (FreshIf.no rfl) }) ?_
    refine RgAll.cons (by { (with_reducible refine RgL.mkG 18 121 true (by rfl) (by kernel_rfl) (by kernel_rfl) (by kernel_rfl) (by kernel_rfl) (by kernel_rfl) ?_ ?_); (focus (intro _ _ h; exact h)); intro v a w' hE hd hf; have d0 : (IsI 2 2) (v 19) w' := hd 19 (by kernel_rfl); have ev0 := hf.val 19 122 _ rfl (by kernel_rfl) (by kernel_rfl) (by kernel_rfl); clear hd hf; intro K hK; go_simp; go_at_call 34; go_split_ands; (with_reducible refine Calls.mono (is_t d0 2 (by decide) (by decide) (by decide) (by decide)) ?_); rintro e w2 ⟨x, rfl, e2, hx⟩; exact hK.out _ _ e2 hx (FreshIf.no rfl) }) ?_
    refine RgAll.cons (by { (with_reducible refine RgL.mk (by rfl) ?_); intro v a w' hE hd hf; have d0 : v 18 = .bool true := hd 18 (by kernel_rfl); have ev0 := hf.val 18 121 _ d0 (by kernel_rfl) (by kernel_rfl) (by kernel_rfl); clear d0; have d1 : v 20 = .bool true := hd 20 (by kernel_rfl); have ev1 := hf.val 20 123 _ d1 (by kernel_rfl) (by kernel_rfl) (by kernel_rfl); clear d1; clear hd hf; intro K hK; go_simp; exact hK.out _ _ (Ext.refl _) rfl (FreshIf.no rfl) }) ?_
    refine RgAll.cons (by { (with_reducible refine RgL.mk (by rfl) ?_); intro v a w' hE hd hf; have d0 : v 21 = .bool true := hd 21 (by kernel_rfl); have ev0 := hf.val 21 124 _ d0 (by kernel_rfl) (by kernel_rfl) (by kernel_rfl); clear d0; clear hd hf; intro K hK; go_simp; exact hK.out _ _ (Ext.refl _) rfl (FreshIf.no rfl) }) ?_
    refine RgAll.cons (by { (with_reducible refine RgL.mkG 22 125 true (by rfl) (by kernel_rfl) (by kernel_rfl) (by kernel_rfl) (by kernel_rfl) (by kernel_rfl) ?_ ?_); (focus (intro _ _ h; exact h)); intro v a w' hE hd hf; have ev0 := hf.lit 9 (.pointer (some ⟨g9, 0, none⟩)) (by kernel_rfl) (by kernel_rfl); obtain ⟨s8, a8, n8, c8, b8, h8⟩ := (S.mono hE).at 8 (g9) (IsI 5 (-1)) rfl; have L0 := b8.c0; have L1 := b8.c1; clear hd hf; intro K hK; go_simp; exact hK.out _ _ (Ext.refl _) h8 (FreshIf.no rfl) }) ?_
    refine RgAll.cons (by { (with_reducible refine RgL.mkG 22 125 true (by rfl) (by kernel_rfl) (by kernel_rfl) (by kernel_rfl) (by kernel_rfl) (by kernel_rfl) ?_ ?_); (focus (intro _ _ h; exact h)); intro v a w' hE hd hf; have d0 : (IsI 5 (-1)) (v 23) w' := hd 23 (by kernel_rfl); have ev0 := hf.val 23 126 _ rfl (by kernel_rfl) (by kernel_rfl) (by kernel_rfl); clear hd hf; intro K hK; go_simp; go_at_call 34; go_split_ands; (with_reducible refine Calls.mono (is_t d0 ((-1)) (by decide) (by decide) (by decide) (by decide)) ?_); rintro e w2 ⟨x, rfl, e2, hx⟩; exact hK.out _ _ e2 hx (FreshIf.no rfl) }) ?_
    refine RgAll.cons (by { (with_reducible refine RgL.mk (by rfl) ?_); intro v a w' hE hd hf; have d0 : v 22 = .bool true := hd 22 (by kernel_rfl); have ev0 := hf.val 22 125 _ d0 (by kernel_rfl) (by kernel_rfl) (by kernel_rfl); clear d0; have d1 : v 24 = .bool true := hd 24 (by kernel_rfl); have ev1 := hf.val 24 127 _ d1 (by kernel_rfl) (by kernel_rfl) (by kernel_rfl); clear d1; clear hd hf; intro K hK; go_simp; exact hK.out _ _ (Ext.refl _) rfl (FreshIf.no rfl) }) ?_
    refine RgAll.cons (by { (with_reducible refine RgL.mk (by rfl) ?_); intro v a w' hE hd hf; have d0 : v 25 = .bool true := hd 25 (by kernel_rfl); have ev0 := hf.val 25 128 _ d0 (by kernel_rfl) (by kernel_rfl) (by kernel_rfl); clear d0; clear hd hf; intro K hK; go_simp; exact hK.out _ _ (Ext.refl _) rfl (FreshIf.no rfl) }) ?_
    refine RgAll.cons (by { (with_reducible refine RgL.mkG 26 129 true (by rfl) (by kernel_rfl) (by kernel_rfl) (by kernel_rfl) (by kernel_rfl) (by kernel_rfl) ?_ ?_); (focus (intro _ _ h; exact h)); intro v a w' hE hd hf; have ev0 := hf.lit 10 (.pointer (some ⟨g10, 0, none⟩)) (by kernel_rfl) (by kernel_rfl); obtain ⟨s8, a8, n8, c8, b8, h8⟩ := (S.mono hE).at 7 (g10) (IsI 2 4) rfl; have L0 := b8.c0; have L1 := b8.c1; clear hd hf; intro K hK; go_simp; exact hK.out _ _ (Ext.refl _) h8 (FreshIf.no rfl) }) ?_
    refine RgAll.cons (by { (with_reducible refine RgL.mkG 26 129 true (by rfl) (by kernel_rfl) (by kernel_rfl) (by kernel_rfl) (by kernel_rfl) (by kernel_rfl) ?_ ?_); (focus (intro _ _ h; exact h)); intro v a w' hE hd hf; have d0 : (IsI 2 4) (v 27) w' := hd 27 (by kernel_rfl); have ev0 := hf.val 27 130 _ rfl (by kernel_rfl) (by kernel_rfl) (by kernel_rfl); clear hd hf; intro K hK; go_simp; go_at_call 34; go_split_ands; (with_reducible refine Calls.mono (is_t d0 4 (by decide) (by decide) (by decide) (by decide)) ?_); rintro e w2 ⟨x, rfl, e2, hx⟩; exact hK.out _ _ e2 hx (FreshIf.no rfl) }) ?_
    refine RgAll.cons (by { (with_reducible refine RgL.mk (by rfl) ?_); intro v a w' hE hd hf; have d0 : v 26 = .bool true := hd 26 (by kernel_rfl); have ev0 := hf.val 26 129 _ d0 (by kernel_rfl) (by kernel_rfl) (by kernel_rfl); clear d0; have d1 : v 28 = .bool true := hd 28 (by kernel_rfl); have ev1 := hf.val 28 131 _ d1 (by kernel_rfl) (by kernel_rfl) (by kernel_rfl); clear d1; clear hd hf; intro K hK; go_simp; exact hK.out _ _ (Ext.refl _) rfl (FreshIf.no rfl) }) ?_
    refine RgAll.cons (by { (with_reducible refine RgL.mk (by rfl) ?_); intro v a w' hE hd hf; have d0 : v 29 = .bool true := hd 29 (by kernel_rfl); have ev0 := hf.val 29 132 _ d0 (by kernel_rfl) (by kernel_rfl) (by kernel_rfl); clear d0; clear hd hf; intro K hK; go_simp; exact hK.out _ _ (Ext.refl _) rfl (FreshIf.no rfl) }) ?_
    refine RgAll.cons (by { (with_reducible refine RgL.mkG 30 133 true (by rfl) (by kernel_rfl) (by kernel_rfl) (by kernel_rfl) (by kernel_rfl) (by kernel_rfl) ?_ ?_); (focus (intro _ _ h; exact h)); intro v a w' hE hd hf; have ev0 := hf.lit 11 (.pointer (some ⟨g11, 0, none⟩)) (by kernel_rfl) (by kernel_rfl); obtain ⟨s8, a8, n8, c8, b8, h8⟩ := (S.mono hE).at 6 (g11) (IsI 2 0) rfl; have L0 := b8.c0; have L1 := b8.c1; clear hd hf; intro K hK; go_simp; exact hK.out _ _ (Ext.refl _) h8 (FreshIf.no rfl) }) ?_
    refine RgAll.cons (by { (with_reducible refine RgL.mkG 30 133 true (by rfl) (by kernel_rfl) (by kernel_rfl) (by kernel_rfl) (by kernel_rfl) (by kernel_rfl) ?_ ?_); (focus (intro _ _ h; exact h)); intro v a w' hE hd hf; have d0 : (IsI 2 0) (v 31) w' := hd 31 (by kernel_rfl); have ev0 := hf.val 31 134 _ rfl (by kernel_rfl) (by kernel_rfl) (by kernel_rfl); clear hd hf; intro K hK; go_simp; go_at_call 34; go_split_ands; (with_reducible refine Calls.mono (is_t d0 0 (by decide) (by decide) (by decide) (by decide)) ?_); rintro e w2 ⟨x, rfl, e2, hx⟩; exact hK.out _ _ e2 hx (FreshIf.no rfl) }) ?_
    refine RgAll.cons (by { (with_reducible refine RgL.mk (by rfl) ?_); intro v a w' hE hd hf; have d0 : v 30 = .bool true := hd 30 (by kernel_rfl); have ev0 := hf.val 30 133 _ d0 (by kernel_rfl) (by kernel_rfl) (by kernel_rfl); clear d0; have d1 : v 32 = .bool true := hd 32 (by kernel_rfl); have ev1 := hf.val 32 135 _ d1 (by kernel_rfl) (by kernel_rfl) (by kernel_rfl); clear d1; clear hd hf; intro K hK; go_simp; exact hK.out _ _ (Ext.refl _) rfl (FreshIf.no rfl) }) ?_
    refine RgAll.cons (by { (with_reducible refine RgL.mk (by rfl) ?_); intro v a w' hE hd hf; have d0 : v 33 = .bool true := hd 33 (by kernel_rfl); have ev0 := hf.val 33 136 _ d0 (by kernel_rfl) (by kernel_rfl) (by kernel_rfl); clear d0; clear hd hf; intro K hK; go_simp; exact hK.out _ _ (Ext.refl _) rfl (FreshIf.no rfl) }) ?_
    refine RgAll.cons (by { (with_reducible refine RgL.mkG 34 137 true (by rfl) (by kernel_rfl) (by kernel_rfl) (by kernel_rfl) (by kernel_rfl) (by kernel_rfl) ?_ ?_); (focus (intro _ _ h; exact h)); intro v a w' hE hd hf; have ev0 := hf.lit 12 (.pointer (some ⟨g12, 0, none⟩)) (by kernel_rfl) (by kernel_rfl); obtain ⟨s8, a8, n8, c8, b8, h8⟩ := (S.mono hE).at 5 (g12) (IsI 5 (-1)) rfl; have L0 := b8.c0; have L1 := b8.c1; clear hd hf; intro K hK; go_simp; exact hK.out _ _ (Ext.refl _) h8 (FreshIf.no rfl) }) ?_
    refine RgAll.cons (by { (with_reducible refine RgL.mkG 34 137 true (by rfl) (by kernel_rfl) (by kernel_rfl) (by kernel_rfl) (by kernel_rfl) (by kernel_rfl) ?_ ?_); (focus (intro _ _ h; exact h)); intro v a w' hE hd hf; have d0 : (IsI 5 (-1)) (v 35) w' := hd 35 (by kernel_rfl); have ev0 := hf.val 35 138 _ rfl (by kernel_rfl) (by kernel_rfl) (by kernel_rfl); clear hd hf; intro K hK; go_simp; go_at_call 34; go_split_ands; (with_reducible refine Calls.mono (is_t d0 ((-1)) (by decide) (by decide) (by decide) (by decide)) ?_); rintro e w2 ⟨x, rfl, e2, hx⟩; exact hK.out _ _ e2 hx (FreshIf.no rfl) }) ?_
    refine RgAll.cons (by { (with_reducible refine RgL.mk (by rfl) ?_); intro v a w' hE hd hf; have d0 : v 34 = .bool true := hd 34 (by kernel_rfl); have ev0 := hf.val 34 137 _ d0 (by kernel_rfl) (by kernel_rfl) (by kernel_rfl); clear d0; have d1 : v 36 = .bool true := hd 36 (by kernel_rfl); have ev1 := hf.val 36 139 _ d1 (by kernel_rfl) (by kernel_rfl) (by kernel_rfl); clear d1; clear hd hf; intro K hK; go_simp; exact hK.out _ _ (Ext.refl _) rfl (FreshIf.no rfl) }) ?_
    refine RgAll.cons (by { (with_reducible refine RgL.mk (by rfl) ?_); intro v a w' hE hd hf; have d0 : v 37 = .bool true := hd 37 (by kernel_rfl); have ev0 := hf.val 37 140 _ d0 (by kernel_rfl) (by kernel_rfl) (by kernel_rfl); clear d0; clear hd hf; intro K hK; go_simp; exact hK.out _ _ (Ext.refl _) rfl (FreshIf.no rfl) }) ?_
    refine RgAll.cons (by { (with_reducible refine RgL.mkG 38 141 true (by rfl) (by kernel_rfl) (by kernel_rfl) (by kernel_rfl) (by kernel_rfl) (by kernel_rfl) ?_ ?_); (focus (intro _ _ h; exact h)); intro v a w' hE hd hf; have ev0 := hf.lit 13 (.pointer (some ⟨g13, 0, none⟩)) (by kernel_rfl) (by kernel_rfl); obtain ⟨s8, a8, n8, c8, b8, h8⟩ := (S.mono hE).at 4 (g13) (IsI 2 (((3 : Nat) : Int))) rfl; have L0 := b8.c0; have L1 := b8.c1; clear hd hf; intro K hK; go_simp; exact hK.out _ _ (Ext.refl _) h8 (FreshIf.no rfl) }) ?_
    refine RgAll.cons (by { (with_reducible refine RgL.mkG 38 141 true (by rfl) (by kernel_rfl) (by kernel_rfl) (by kernel_rfl) (by kernel_rfl) (by kernel_rfl) ?_ ?_); (focus (intro _ _ h; exact h)); intro v a w' hE hd hf; have d0 : (IsI 2 (((3 : Nat) : Int))) (v 39) w' := hd 39 (by kernel_rfl); have ev0 := hf.val 39 142 _ rfl (by kernel_rfl) (by kernel_rfl) (by kernel_rfl); clear hd hf; intro K hK; go_simp; go_at_call 34; go_split_ands; (with_reducible refine Calls.mono (is_t d0 3 (by decide) (by decide) (by decide) (by decide)) ?_); rintro e w2 ⟨x, rfl, e2, hx⟩; exact hK.out _ _ e2 hx (FreshIf.no rfl) }) ?_
    refine RgAll.cons (by { (with_reducible refine RgL.mk (by rfl) ?_); intro v a w' hE hd hf; have d0 : v 38 = .bool true := hd 38 (by kernel_rfl); have ev0 := hf.val 38 141 _ d0 (by kernel_rfl) (by kernel_rfl) (by kernel_rfl); clear d0; have d1 : v 40 = .bool true := hd 40 (by kernel_rfl); have ev1 := hf.val 40 143 _ d1 (by kernel_rfl) (by kernel_rfl) (by kernel_rfl); clear d1; clear hd hf; intro K hK; go_simp; exact hK.out _ _ (Ext.refl _) rfl (FreshIf.no rfl) }) ?_
    refine RgAll.cons (by { (with_reducible refine RgL.mk (by rfl) ?_); intro v a w' hE hd hf; have d0 : v 41 = .bool true := hd 41 (by kernel_rfl); have ev0 := hf.val 41 144 _ d0 (by kernel_rfl) (by kernel_rfl) (by kernel_rfl); clear d0; clear hd hf; intro K hK; go_simp; exact hK.out _ _ (Ext.refl _) rfl (FreshIf.no rfl) }) ?_
    refine RgAll.cons (by { (with_reducible refine RgL.mkG 42 145 true (by rfl) (by kernel_rfl) (by kernel_rfl) (by kernel_rfl) (by kernel_rfl) (by kernel_rfl) ?_ ?_); (focus (intro _ _ h; exact h)); intro v a w' hE hd hf; have ev0 := hf.lit 14 (.pointer (some ⟨g14, 0, none⟩)) (by kernel_rfl) (by kernel_rfl); obtain ⟨s8, a8, n8, c8, b8, h8⟩ := (S.mono hE).at 3 (g14) (IsI 2 (10 - ((3 : Nat) : Int) * ((3 : Nat) : Int))) rfl; have L0 := b8.c0; have L1 := b8.c1; clear hd hf; intro K hK; go_simp; exact hK.out _ _ (Ext.refl _) h8 (FreshIf.no rfl) }) ?_
    refine RgAll.cons (by { (with_reducible refine RgL.mkG 42 145 true (by rfl) (by kernel_rfl) (by kernel_rfl) (by kernel_rfl) (by kernel_rfl) (by kernel_rfl) ?_ ?_); (focus (intro _ _ h; exact h)); intro v a w' hE hd hf; have d0 : (IsI 2 (10 - ((3 : Nat) : Int) * ((3 : Nat) : Int))) (v 43) w' := hd 43 (by kernel_rfl); have ev0 := hf.val 43 146 _ rfl (by kernel_rfl) (by kernel_rfl) (by kernel_rfl); clear hd hf; intro K hK; go_simp; go_at_call 34; go_split_ands; (with_reducible refine Calls.mono (is_t d0 1 (by decide) (by decide) (by decide) (by decide)) ?_); rintro e w2 ⟨x, rfl, e2, hx⟩; exact hK.out _ _ e2 hx (FreshIf.no rfl) }) ?_
    refine RgAll.cons (by { (with_reducible refine RgL.mk (by rfl) ?_); intro v a w' hE hd hf; have d0 : v 42 = .bool true := hd 42 (by kernel_rfl); have ev0 := hf.val 42 145 _ d0 (by kernel_rfl) (by kernel_rfl) (by kernel_rfl); clear d0; have d1 : v 44 = .bool true := hd 44 (by kernel_rfl); have ev1 := hf.val 44 147 _ d1 (by kernel_rfl) (by kernel_rfl) (by kernel_rfl); clear d1; clear hd hf; intro K hK; go_simp; exact hK.out _ _ (Ext.refl _) rfl (FreshIf.no rfl) }) ?_
    refine RgAll.cons (by { (with_reducible refine RgL.mk (by rfl) ?_); intro v a w' hE hd hf; have d0 : v 45 = .bool true := hd 45 (by kernel_rfl); have ev0 := hf.val 45 148 _ d0 (by kernel_rfl) (by kernel_rfl) (by kernel_rfl); clear d0; clear hd hf; intro K hK; go_simp; exact hK.out _ _ (Ext.refl _) rfl (FreshIf.no rfl) }) ?_
    refine RgAll.cons (by { (with_reducible refine RgL.mkG 46 149 true (by rfl) (by kernel_rfl) (by kernel_rfl) (by kernel_rfl) (by kernel_rfl) (by kernel_rfl) ?_ ?_); (focus (intro _ _ h; exact h)); intro v a w' hE hd hf; have ev0 := hf.lit 16 (.pointer (some ⟨g16, 0, none⟩)) (by kernel_rfl) (by kernel_rfl); obtain ⟨s8, a8, n8, c8, b8, h8⟩ := (S.mono hE).at 2 (g16) (IsI 2 (((9 : Nat) : Int))) rfl; have L0 := b8.c0; have L1 := b8.c1; clear hd hf; intro K hK; go_simp; exact hK.out _ _ (Ext.refl _) h8 (FreshIf.no rfl) }) ?_
    refine RgAll.cons (by { (with_reducible refine RgL.mkG 46 149 true (by rfl) (by kernel_rfl) (by kernel_rfl) (by kernel_rfl) (by kernel_rfl) (by kernel_rfl) ?_ ?_); (focus (intro _ _ h; exact h)); intro v a w' hE hd hf; have d0 : (IsI 2 (((9 : Nat) : Int))) (v 47) w' := hd 47 (by kernel_rfl); have ev0 := hf.val 47 150 _ rfl (by kernel_rfl) (by kernel_rfl) (by kernel_rfl); clear hd hf; intro K hK; go_simp; go_at_call 34; go_split_ands; (with_reducible refine Calls.mono (is_t d0 9 (by decide) (by decide) (by decide) (by decide)) ?_); rintro e w2 ⟨x, rfl, e2, hx⟩; exact hK.out _ _ e2 hx (FreshIf.no rfl) }) ?_
    refine RgAll.cons (by { (with_reducible refine RgL.mk (by rfl) ?_); intro v a w' hE hd hf; have d0 : v 46 = .bool true := hd 46 (by kernel_rfl); have ev0 := hf.val 46 149 _ d0 (by kernel_rfl) (by kernel_rfl) (by kernel_rfl); clear d0; have d1 : v 48 = .bool true := hd 48 (by kernel_rfl); have ev1 := hf.val 48 151 _ d1 (by kernel_rfl) (by kernel_rfl) (by kernel_rfl); clear d1; clear hd hf; intro K hK; go_simp; exact hK.out _ _ (Ext.refl _) rfl (FreshIf.no rfl) }) ?_
    refine RgAll.cons (by { (with_reducible refine RgL.mk (by rfl) ?_); intro v a w' hE hd hf; have d0 : v 49 = .bool true := hd 49 (by kernel_rfl); have ev0 := hf.val 49 152 _ d0 (by kernel_rfl) (by kernel_rfl) (by kernel_rfl); clear d0; clear hd hf; intro K hK; go_simp; exact hK.out _ _ (Ext.refl _) rfl (FreshIf.no rfl) }) ?_
    refine RgAll.cons (by { (with_reducible refine RgL.mkG 50 153 true (by rfl) (by kernel_rfl) (by kernel_rfl) (by kernel_rfl) (by kernel_rfl) (by kernel_rfl) ?_ ?_); (focus (intro _ _ h; exact h)); intro v a w' hE hd hf; have ev0 := hf.lit 18 (.pointer (some ⟨g18, 0, none⟩)) (by kernel_rfl) (by kernel_rfl); obtain ⟨s8, a8, n8, c8, b8, h8⟩ := (S.mono hE).at 1 (g18) (IsI 128 ((-2) ^ 3)) rfl; have L0 := b8.c0; have L1 := b8.c1; clear hd hf; intro K hK; go_simp; exact hK.out _ _ (Ext.refl _) h8 (FreshIf.no rfl) }) ?_
    refine RgAll.cons (by { (with_reducible refine RgL.mkG 50 153 true (by rfl) (by kernel_rfl) (by kernel_rfl) (by kernel_rfl) (by kernel_rfl) (by kernel_rfl) ?_ ?_); (focus (intro _ _ h; exact h)); intro v a w' hE hd hf; have d0 : (IsI 128 ((-2) ^ 3)) (v 51) w' := hd 51 (by kernel_rfl); have ev0 := hf.val 51 154 _ rfl (by kernel_rfl) (by kernel_rfl) (by kernel_rfl); clear hd hf; intro K hK; go_simp; go_at_call 34; go_split_ands; (with_reducible refine Calls.mono (is_t d0 ((-8)) (by decide) (by decide) (by decide) (by decide)) ?_); rintro e w2 ⟨x, rfl, e2, hx⟩; exact hK.out _ _ e2 hx (FreshIf.no rfl) }) ?_
    refine RgAll.cons (by { (with_reducible refine RgL.mk (by rfl) ?_); intro v a w' hE hd hf; have d0 : v 50 = .bool true := hd 50 (by kernel_rfl); have ev0 := hf.val 50 153 _ d0 (by kernel_rfl) (by kernel_rfl) (by kernel_rfl); clear d0; have d1 : v 52 = .bool true := hd 52 (by kernel_rfl); have ev1 := hf.val 52 155 _ d1 (by kernel_rfl) (by kernel_rfl) (by kernel_rfl); clear d1; clear hd hf; intro K hK; go_simp; exact hK.out _ _ (Ext.refl _) rfl (FreshIf.no rfl) }) ?_
    refine RgAll.cons (by { (with_reducible refine RgL.mk (by rfl) ?_); intro v a w' hE hd hf; have d0 : v 53 = .bool true := hd 53 (by kernel_rfl); have ev0 := hf.val 53 156 _ d0 (by kernel_rfl) (by kernel_rfl) (by kernel_rfl); clear d0; clear hd hf; intro K hK; go_simp; exact hK.out _ _ (Ext.refl _) rfl (FreshIf.no rfl) }) ?_
    refine RgAll.cons (by { (with_reducible refine RgL.mkG 54 157 true (by rfl) (by kernel_rfl) (by kernel_rfl) (by kernel_rfl) (by kernel_rfl) (by kernel_rfl) ?_ ?_); (focus (intro _ _ h; exact h)); intro v a w' hE hd hf; have ev0 := hf.lit 20 (.string ⟨#[45, 52, 50, 57, 52, 57, 54, 55, 50, 57, 54]⟩) (by kernel_rfl) (by kernel_rfl); clear hd hf; intro K hK; go_simp; exact hK.out _ _ (Ext.refl _) rfl (FreshIf.no rfl) }) ?_
    refine RgAll.cons (by { (with_reducible refine RgL.mkG 54 157 true (by rfl) (by kernel_rfl) (by kernel_rfl) (by kernel_rfl) (by kernel_rfl) (by kernel_rfl) ?_ ?_); (focus (intro _ _ h; exact h)); intro v a w' hE hd hf; have d0 : v 55 = .string ⟨#[45, 52, 50, 57, 52, 57, 54, 55, 50, 57, 54]⟩ := hd 55 (by kernel_rfl); have ev0 := hf.val 55 158 _ d0 (by kernel_rfl) (by kernel_rfl) (by kernel_rfl); clear d0; clear hd hf; intro K hK; go_simp; exact hK.out _ _ (Ext.refl _) rfl (FreshIf.no rfl) }) ?_
    refine RgAll.cons (by { (with_reducible refine RgL.mk (by rfl) ?_); intro v a w' hE hd hf; have d0 : v 54 = .bool true := hd 54 (by kernel_rfl); have ev0 := hf.val 54 157 _ d0 (by kernel_rfl) (by kernel_rfl) (by kernel_rfl); clear d0; have d1 : v 56 = .bool true := hd 56 (by kernel_rfl); have ev1 := hf.val 56 159 _ d1 (by kernel_rfl) (by kernel_rfl) (by kernel_rfl); clear d1; clear hd hf; intro K hK; go_simp; exact hK.out _ _ (Ext.refl _) rfl (FreshIf.no rfl) }) ?_
    refine RgAll.cons (by { (with_reducible refine RgL.mk (by rfl) ?_); intro v a w' hE hd hf; have d0 : v 57 = .bool true := hd 57 (by kernel_rfl); have ev0 := hf.val 57 160 _ d0 (by kernel_rfl) (by kernel_rfl) (by kernel_rfl); clear d0; clear hd hf; intro K hK; go_simp; exact hK.out _ _ (Ext.refl _) rfl (FreshIf.no rfl) }) ?_
    refine RgAll.cons (by { (with_reducible refine RgL.mkG 58 161 true (by rfl) (by kernel_rfl) (by kernel_rfl) (by kernel_rfl) (by kernel_rfl) (by kernel_rfl) ?_ ?_); (focus (intro _ _ h; exact h)); intro v a w' hE hd hf; skip; clear hd hf; intro K hK; go_simp; go_at_call 33; go_split_ands; (with_reducible refine Calls.mono (ROf_f _ ((-12)) (by decide) (by decide)) ?_); rintro e w2 ⟨x, rfl, e2, hx⟩; exact hK.out _ _ e2 hx (FreshIf.no rfl) }) ?_
    refine RgAll.cons (by { (with_reducible refine RgL.mkG 58 161 true (by rfl) (by kernel_rfl) (by kernel_rfl) (by kernel_rfl) (by kernel_rfl) (by kernel_rfl) ?_ ?_); (focus (intro _ _ h; exact h)); intro v a w' hE hd hf; skip; clear hd hf; intro K hK; go_simp; go_at_call 33; go_split_ands; (with_reducible refine Calls.mono (ROf_f _ 18 (by decide) (by decide)) ?_); rintro e w2 ⟨x, rfl, e2, hx⟩; exact hK.out _ _ e2 hx (FreshIf.no rfl) }) ?_
    refine RgAll.cons (by { (with_reducible refine RgL.mkG 58 161 true (by rfl) (by kernel_rfl) (by kernel_rfl) (by kernel_rfl) (by kernel_rfl) (by kernel_rfl) ?_ ?_); (focus (intro _ _ h; exact h)); intro v a w' hE hd hf; have d0 : (IsI 2 ((-12))) (v 59) w' := hd 59 (by kernel_rfl); have ev0 := hf.val 59 162 _ rfl (by kernel_rfl) (by kernel_rfl) (by kernel_rfl); have d1 : (IsI 2 18) (v 60) w' := hd 60 (by kernel_rfl); have ev1 := hf.val 60 163 _ rfl (by kernel_rfl) (by kernel_rfl) (by kernel_rfl); clear hd hf; intro K hK; go_simp; go_at_call 19; go_split_ands; (with_reducible refine Calls.mono (Gcd_f d0 d1 (by decide) (by decide)) ?_); rintro e w2 ⟨x, rfl, e2, hx⟩; exact hK.out _ _ e2 hx (FreshIf.no rfl) }) ?_
    refine RgAll.cons (by { (with_reducible refine RgL.mkG 58 161 true (by rfl) (by kernel_rfl) (by kernel_rfl) (by kernel_rfl) (by kernel_rfl) (by kernel_rfl) ?_ ?_); (focus (intro _ _ h; exact h)); intro v a w' hE hd hf; have d0 : (IsI 2 (Int.gcd ((-12)) 18)) (v 61) w' := hd 61 (by kernel_rfl); have ev0 := hf.val 61 164 _ rfl (by kernel_rfl) (by kernel_rfl) (by kernel_rfl); clear hd hf; intro K hK; go_simp; go_at_call 34; go_split_ands; (with_reducible refine Calls.mono (is_t d0 6 (by decide) (by decide) (by decide) (by decide)) ?_); rintro e w2 ⟨x, rfl, e2, hx⟩; exact hK.out _ _ e2 hx (FreshIf.no rfl) }) ?_
    refine RgAll.cons (by { (with_reducible refine RgL.mk (by rfl) ?_); intro v a w' hE hd hf; have d0 : v 58 = .bool true := hd 58 (by kernel_rfl); have ev0 := hf.val 58 161 _ d0 (by kernel_rfl) (by kernel_rfl) (by kernel_rfl); clear d0; have d1 : v 62 = .bool true := hd 62 (by kernel_rfl); have ev1 := hf.val 62 165 _ d1 (by kernel_rfl) (by kernel_rfl) (by kernel_rfl); clear d1; clear hd hf; intro K hK; go_simp; exact hK.out _ _ (Ext.refl _) rfl (FreshIf.no rfl) }) ?_
    refine RgAll.cons (by { (with_reducible refine RgL.mk (by rfl) ?_); intro v a w' hE hd hf; have d0 : v 63 = .bool true := hd 63 (by kernel_rfl); have ev0 := hf.val 63 166 _ d0 (by kernel_rfl) (by kernel_rfl) (by kernel_rfl); clear d0; clear hd hf; intro K hK; go_simp; exact hK.out _ _ (Ext.refl _) rfl (FreshIf.no rfl) }) ?_
    exact RgAll.nil
  intro v W25 e1 hΦ _
  replace S := S.mono e1
  have v64 : v 64 = .bool true := hΦ 64 (by decide)
  simp only [layL, Act.put, List.setIfInBounds_toArray, List.set_cons_zero, List.set_cons_succ, Nat.reduceAdd]
  rw [v64]
  clear v64
  clear hΦ
  clear e1
  refine wpList_nil ?_
  go_wp2_with fail
  exact bodyPost_ret (v := .bool true) (by simp [results, Tryd.results9, go_sem]) rfl (⟨_, rfl, S.ext, rfl⟩)
end Go.Proofs.YtpflfagjkmeeiaaDoor
