/-
 The reference package: DivMod by 0, Div, Mod. Every two integers of at most 2^26 words. (Printed by wip/gen/rdiv.py.)
-/
import Derived.Test.YtkeikfekkdplgaaGreatDoorRDivMod
namespace Go.Proofs.YtkeikfekkdplgaaGreatDoor
open Go Go.RowKit

set_option maxRecDepth 100000 in
set_option maxHeartbeats 4000000 in
theorem RDiv_f {k1 k2 : Nat} {z1 z2 : Int} {x y : Value} {w : World} (hx : IsI k1 z1 x w) (hy : IsI k2 z2 y w) (l1 : k1 ≤ 67108864) (l2 : k2 ≤ 67108864) (hz : z2 ≠ 0) : Calls Tryz.prog 105 #[x, y] w (Ret w (IsI k1 (z1 / z2))) := by
 obtain ⟨s1, a1, n1, c1, rfl, h1⟩ := hx; obtain ⟨s2, a2, n2, c2, rfl, h2⟩ := hy
 have HZ := hid hz
 obtain ⟨W, hW, S⟩ : ∃ W, W = ((w.alloc (.cells #[.bool s1, .slice a1 n1 c1] 28)).alloc (.cells #[.bool s2, .slice a2 n2 c2] 28)).alloc (.cells #[.bool false, .slice none 0 0] 28) ∧ St w W [(w.heap.size + 1 + 1, IsI 0 0), (w.heap.size + 1, IsI k2 z2), (w.heap.size, IsI k1 z1)] := ⟨_, rfl, ((((St.start w).new' (w.heap.size) (by simp) s1 a1 n1 c1 28 (IsI k1 z1) (IsI.gstb _ _) ⟨_, _, _, _, rfl, h1⟩).new' (w.heap.size + 1) (by simp) s2 a2 n2 c2 28 (IsI k2 z2) (IsI.gstb _ _) ⟨_, _, _, _, rfl, h2.ext ((Ext.refl _).alloc _)⟩).new' (w.heap.size + 1 + 1) (by simp) false none 0 0 28 (IsI 0 0) (IsI.gstb _ _) (IsI.nil _ _))⟩
 clear h1 h2
 go_enter Tryz.func105, Tryz.ntmps105
 go_upto_region 1 with (fail)
 rw [← hW]
 clear hW
 have hl := hid S.lt; have hw := S.ext.size
 refine wp_region_rgs 9 [some 9, some 10, some 11, some 8, some 12, some 13, some 14, some 5, some 6] [IsI k1 z1, IsI k2 z2, IsT3 (IsI k1 (z1 / z2)) (IsI k2 (z1 % z2)) (IsV (.int .i64 0)), IsT3 (IsI k1 (z1 / z2)) (IsI k2 (z1 % z2)) (IsV (.int .i64 0)), IsI k1 (z1 / z2), IsI k2 (z1 % z2), IsV (.int .i64 0), IsB W, IsB W] [7, 8] (by decide) (by kernel_rfl) (by kernel_rfl) (by kernel_rfl) ?_ ?_ ?_ ?_
 ·repeat' (first | exact trivial | exact IsV.stb _ | exact IsW.stb _ | exact IsWk.stb _ _ | exact IsI.stb _ _ | exact IsB.stb _ | exact IsR.stb _ _ | exact IsMag.stb _ _ | exact IsPos.stb | apply IsT3.stb | apply IsT2.stb | apply And.intro)
 ·intro i hi; simp only [List.mem_cons, List.not_mem_nil, or_false] at hi; rcases hi with rfl | rfl <;> exact IsB.box _
 ·refine RgAll.cons (by { (with_reducible refine RgL.mk (by rfl) ?_); intro v a w' hE hd hf; have ev0 := hf.lit 2 (.pointer (some ⟨w.heap.size, 0, none⟩)) (by kernel_rfl) (by kernel_rfl); obtain ⟨s8, a8, n8, c8, b8, h8⟩ := (S.mono hE).at 2 (w.heap.size) (IsI k1 z1) rfl; have L0 := b8.c0; have L1 := b8.c1; clear hd hf; intro K hK; go_simp; exact hK.out _ _ (Ext.refl _) h8 (FreshIf.no rfl) }) ?_
  refine RgAll.cons (by { (with_reducible refine RgL.mk (by rfl) ?_); intro v a w' hE hd hf; have ev0 := hf.lit 3 (.pointer (some ⟨w.heap.size + 1, 0, none⟩)) (by kernel_rfl) (by kernel_rfl); obtain ⟨s8, a8, n8, c8, b8, h8⟩ := (S.mono hE).at 1 (w.heap.size + 1) (IsI k2 z2) rfl; have L0 := b8.c0; have L1 := b8.c1; clear hd hf; intro K hK; go_simp; exact hK.out _ _ (Ext.refl _) h8 (FreshIf.no rfl) }) ?_
  refine RgAll.cons (by { (with_reducible refine RgL.mk (by rfl) ?_); intro v a w' hE hd hf; have d0 : (IsI k1 z1) (v 0) w' := hd 0 (by kernel_rfl); have ev0 := hf.val 0 9 _ rfl (by kernel_rfl) (by kernel_rfl) (by kernel_rfl); have d1 : (IsI k2 z2) (v 1) w' := hd 1 (by kernel_rfl); have ev1 := hf.val 1 10 _ rfl (by kernel_rfl) (by kernel_rfl) (by kernel_rfl); clear hd hf; intro K hK; go_simp; go_at_call 126; go_split_ands; (with_reducible refine Calls.mono (RDivMod_f d0 d1 l1 l2 HZ.out) ?_); rintro e w2 ⟨x, rfl, e2, hx⟩; exact hK.out _ _ e2 hx (FreshIf.no rfl) }) ?_
  refine RgAll.cons (by { (with_reducible refine RgL.mk (by rfl) ?_); intro v a w' hE hd hf; have d0 : (IsT3 (IsI k1 (z1 / z2)) (IsI k2 (z1 % z2)) (IsV (.int .i64 0))) (v 2) w' := hd 2 (by kernel_rfl); have ev0 := hf.val 2 11 _ rfl (by kernel_rfl) (by kernel_rfl) (by kernel_rfl); clear hd hf; intro K hK; go_simp; exact hK.out _ _ (Ext.refl _) d0 (FreshIf.no rfl) }) ?_
  refine RgAll.cons (by { (with_reducible refine RgL.mk (by rfl) ?_); intro v a w' hE hd hf; have d0 : (IsT3 (IsI k1 (z1 / z2)) (IsI k2 (z1 % z2)) (IsV (.int .i64 0))) (v 3) w' := hd 3 (by kernel_rfl); obtain ⟨x0, x1, x2, z0, y0, y1, y2⟩ := d0; have ev0 := hf.val 3 8 _ z0 (by kernel_rfl) (by kernel_rfl) (by kernel_rfl); clear z0; clear hd hf; intro K hK; go_simp; exact hK.out _ _ (Ext.refl _) y0 (FreshIf.no rfl) }) ?_
  refine RgAll.cons (by { (with_reducible refine RgL.mk (by rfl) ?_); intro v a w' hE hd hf; have d0 : (IsT3 (IsI k1 (z1 / z2)) (IsI k2 (z1 % z2)) (IsV (.int .i64 0))) (v 3) w' := hd 3 (by kernel_rfl); obtain ⟨x0, x1, x2, z0, y0, y1, y2⟩ := d0; have ev0 := hf.val 3 8 _ z0 (by kernel_rfl) (by kernel_rfl) (by kernel_rfl); clear z0; clear hd hf; intro K hK; go_simp; exact hK.out _ _ (Ext.refl _) y1 (FreshIf.no rfl) }) ?_
  refine RgAll.cons (by { (with_reducible refine RgL.mk (by rfl) ?_); intro v a w' hE hd hf; have d0 : (IsT3 (IsI k1 (z1 / z2)) (IsI k2 (z1 % z2)) (IsV (.int .i64 0))) (v 3) w' := hd 3 (by kernel_rfl); obtain ⟨x0, x1, x2, z0, y0, y1, y2⟩ := d0; have ev0 := hf.val 3 8 _ z0 (by kernel_rfl) (by kernel_rfl) (by kernel_rfl); clear z0; clear hd hf; intro K hK; go_simp; exact hK.out _ _ (Ext.refl _) y2 (FreshIf.no rfl) }) ?_
  refine RgAll.cons (by { (with_reducible refine RgL.mk (by rfl) ?_); intro v a w' hE hd hf; skip; clear hd hf; intro K hK; go_simp; refine hK.out _ _ ((Ext.refl _).alloc _) ⟨_, rfl, hE.size, Bx.new _ _ _ _ _⟩ FreshIf.yes }) ?_
  refine RgAll.cons (by { (with_reducible refine RgL.mk (by rfl) ?_); intro v a w' hE hd hf; skip; clear hd hf; intro K hK; go_simp; refine hK.out _ _ ((Ext.refl _).alloc _) ⟨_, rfl, hE.size, Bx.new _ _ _ _ _⟩ FreshIf.yes }) ?_
  exact RgAll.nil
 intro v W1 e1 hΦ hne
 replace S := S.mono e1
 obtain ⟨s12, a12, n12, c12, v4, h12⟩ := (hΦ 4 (by decide) : IsI k1 (z1 / z2) (v 4) W1)
 obtain ⟨s13, a13, n13, c13, v5, h13⟩ := (hΦ 5 (by decide) : IsI k2 (z1 % z2) (v 5) W1)
 have v6 : v 6 = .int .i64 0 := hΦ 6 (by decide)
 obtain ⟨g5, v7, q2, b1⟩ := (hΦ 7 (by decide) : IsB W (v 7) W1)
 replace S := S.addN (Apart.old hl.out q2) (Nat.le_trans hw q2) b1
 clear b1
 obtain ⟨g6, v8, q4, b3⟩ := (hΦ 8 (by decide) : IsB W (v 8) W1)
 replace S := S.addN (Apart.cons (fun h => hne 7 8 (by decide) (by decide) (by decide) (by decide) (by decide) (by rw [v7, v8, h])) (Apart.old hl.out q4)) (Nat.le_trans hw q4) b3
 clear b3
 clear hne
 simp only [layL, Act.put, uAx, u0x, u1x, Nat.reduceAdd]
 rw [v4, v5, v6, v7, v8]
 clear v4 v5 v6 v7 v8
 clear hΦ
 clear hl hw
 clear e1
 obtain ⟨s8, a8, n8, c8, b8, _⟩ := S.at 1 (g5) (IsI 0 0) rfl; have F1 := b8.c0; have F2 := b8.c1; have F3 := b8.f0; have F4 := b8.f1
 refine wpList_step fun K hK => ?_; go_simp; refine hK _ _ ?_; clear hK K
 clear F1 F2 F3 F4 b8
 obtain ⟨W2, hW, S2, G2, _⟩ := S.put 1 (g5) (IsI 0 0) (IsI k1 (z1 / z2)) rfl s12 a12 n12 c12 (IsI.gstb _ _) ⟨_, _, _, _, rfl, h12⟩
 rw [← hW]; clear hW S
 replace h13 := h13.gr G2
 have S : St w W2 [(g6, IsI 0 0), (g5, IsI k1 (z1 / z2)), (w.heap.size + 1 + 1, IsI 0 0), (w.heap.size + 1, IsI k2 z2), (w.heap.size, IsI k1 z1)] := S2; clear S2 G2
 clear h12
 obtain ⟨s8, a8, n8, c8, b8, _⟩ := S.at 0 (g6) (IsI 0 0) rfl; have F1 := b8.c0; have F2 := b8.c1; have F3 := b8.f0; have F4 := b8.f1
 refine wpList_step fun K hK => ?_; go_simp; refine hK _ _ ?_; clear hK K
 clear F1 F2 F3 F4 b8
 obtain ⟨W3, hW, S2, G2, _⟩ := S.put 0 (g6) (IsI 0 0) (IsI k2 (z1 % z2)) rfl s13 a13 n13 c13 (IsI.gstb _ _) ⟨_, _, _, _, rfl, h13⟩
 rw [← hW]; clear hW S
 have S : St w W3 [(g6, IsI k2 (z1 % z2)), (g5, IsI k1 (z1 / z2)), (w.heap.size + 1 + 1, IsI 0 0), (w.heap.size + 1, IsI k2 z2), (w.heap.size, IsI k1 z1)] := S2; clear S2 G2
 clear h13
 refine wpList_step fun K hK => ?_; go_simp; refine hK _ _ ?_; clear hK K
 refine wpList_nil ?_
 go_upto_region 2 with (fail)
 refine wp_region_rgs 1 [some 15] [IsI k1 (z1 / z2)] [] (by decide) (by kernel_rfl) (by kernel_rfl) (by kernel_rfl) ?_ ?_ ?_ ?_
 ·repeat' (first | exact trivial | exact IsV.stb _ | exact IsW.stb _ | exact IsWk.stb _ _ | exact IsI.stb _ _ | exact IsB.stb _ | exact IsR.stb _ _ | exact IsMag.stb _ _ | exact IsPos.stb | apply IsT3.stb | apply IsT2.stb | apply And.intro)
 ·exact (fun _ h => by cases h)
 ·refine RgAll.cons (by { (with_reducible refine RgL.mk (by rfl) ?_); intro v a w' hE hd hf; have ev0 := hf.lit 5 (.pointer (some ⟨g5, 0, none⟩)) (by kernel_rfl) (by kernel_rfl); obtain ⟨s8, a8, n8, c8, b8, h8⟩ := (S.mono hE).at 1 (g5) (IsI k1 (z1 / z2)) rfl; have L0 := b8.c0; have L1 := b8.c1; clear hd hf; intro K hK; go_simp; exact hK.out _ _ (Ext.refl _) h8 (FreshIf.no rfl) }) ?_
  exact RgAll.nil
 intro v W4 e1 hΦ _
 replace S := S.mono e1
 obtain ⟨s15, a15, n15, c15, v0, h15⟩ := (hΦ 0 (by decide) : IsI k1 (z1 / z2) (v 0) W4)
 simp only [layL, Act.put, uAx, u0x, u1x]
 rw [v0]
 clear v0
 clear hΦ
 clear e1
 obtain ⟨s8, a8, n8, c8, b8, _⟩ := S.at 2 (w.heap.size + 1 + 1) (IsI 0 0) rfl; have F1 := b8.c0; have F2 := b8.c1; have F3 := b8.f0; have F4 := b8.f1
 refine wpList_step fun K hK => ?_; go_simp; refine hK _ _ ?_; clear hK K
 clear F1 F2 F3 F4 b8
 obtain ⟨W5, hW, S2, G2, _⟩ := S.put 2 (w.heap.size + 1 + 1) (IsI 0 0) (IsI k1 (z1 / z2)) rfl s15 a15 n15 c15 (IsI.gstb _ _) ⟨_, _, _, _, rfl, h15⟩
 rw [← hW]; clear hW S
 have S : St w W5 [(g6, IsI k2 (z1 % z2)), (g5, IsI k1 (z1 / z2)), (w.heap.size + 1 + 1, IsI k1 (z1 / z2)), (w.heap.size + 1, IsI k2 z2), (w.heap.size, IsI k1 z1)] := S2; clear S2 G2
 clear h15
 refine wpList_nil ?_
 go_wp2_with fail
 obtain ⟨rs0, ra0, rn0, rc0, rb0, rh0⟩ := S.at 2 (w.heap.size + 1 + 1) (IsI k1 (z1 / z2)) rfl; have T0 := rb0.c0; have U0 := rb0.c1
 exact bodyPost_ret (v := .agg #[.bool rs0, .slice ra0 rn0 rc0]) (by simp [results, Tryz.results105, go_sem, T0, U0]) rfl (⟨_, rfl, S.ext, rh0⟩)

set_option maxRecDepth 100000 in
set_option maxHeartbeats 4000000 in
theorem RMod_f {k1 k2 : Nat} {z1 z2 : Int} {x y : Value} {w : World} (hx : IsI k1 z1 x w) (hy : IsI k2 z2 y w) (l1 : k1 ≤ 67108864) (l2 : k2 ≤ 67108864) (hz : z2 ≠ 0) : Calls Tryz.prog 125 #[x, y] w (Ret w (IsI k2 (z1 % z2))) := by
 obtain ⟨s1, a1, n1, c1, rfl, h1⟩ := hx; obtain ⟨s2, a2, n2, c2, rfl, h2⟩ := hy
 have HZ := hid hz
 obtain ⟨W, hW, S⟩ : ∃ W, W = ((w.alloc (.cells #[.bool s1, .slice a1 n1 c1] 28)).alloc (.cells #[.bool s2, .slice a2 n2 c2] 28)).alloc (.cells #[.bool false, .slice none 0 0] 28) ∧ St w W [(w.heap.size + 1 + 1, IsI 0 0), (w.heap.size + 1, IsI k2 z2), (w.heap.size, IsI k1 z1)] := ⟨_, rfl, ((((St.start w).new' (w.heap.size) (by simp) s1 a1 n1 c1 28 (IsI k1 z1) (IsI.gstb _ _) ⟨_, _, _, _, rfl, h1⟩).new' (w.heap.size + 1) (by simp) s2 a2 n2 c2 28 (IsI k2 z2) (IsI.gstb _ _) ⟨_, _, _, _, rfl, h2.ext ((Ext.refl _).alloc _)⟩).new' (w.heap.size + 1 + 1) (by simp) false none 0 0 28 (IsI 0 0) (IsI.gstb _ _) (IsI.nil _ _))⟩
 clear h1 h2
 go_enter Tryz.func125, Tryz.ntmps125
 go_upto_region 1 with (fail)
 rw [← hW]
 clear hW
 have hl := hid S.lt; have hw := S.ext.size
 refine wp_region_rgs 9 [some 9, some 10, some 11, some 8, some 12, some 13, some 14, some 5, some 6] [IsI k1 z1, IsI k2 z2, IsT3 (IsI k1 (z1 / z2)) (IsI k2 (z1 % z2)) (IsV (.int .i64 0)), IsT3 (IsI k1 (z1 / z2)) (IsI k2 (z1 % z2)) (IsV (.int .i64 0)), IsI k1 (z1 / z2), IsI k2 (z1 % z2), IsV (.int .i64 0), IsB W, IsB W] [7, 8] (by decide) (by kernel_rfl) (by kernel_rfl) (by kernel_rfl) ?_ ?_ ?_ ?_
 ·repeat' (first | exact trivial | exact IsV.stb _ | exact IsW.stb _ | exact IsWk.stb _ _ | exact IsI.stb _ _ | exact IsB.stb _ | exact IsR.stb _ _ | exact IsMag.stb _ _ | exact IsPos.stb | apply IsT3.stb | apply IsT2.stb | apply And.intro)
 ·intro i hi; simp only [List.mem_cons, List.not_mem_nil, or_false] at hi; rcases hi with rfl | rfl <;> exact IsB.box _
 ·refine RgAll.cons (by { (with_reducible refine RgL.mk (by rfl) ?_); intro v a w' hE hd hf; have ev0 := hf.lit 2 (.pointer (some ⟨w.heap.size, 0, none⟩)) (by kernel_rfl) (by kernel_rfl); obtain ⟨s8, a8, n8, c8, b8, h8⟩ := (S.mono hE).at 2 (w.heap.size) (IsI k1 z1) rfl; have L0 := b8.c0; have L1 := b8.c1; clear hd hf; intro K hK; go_simp; exact hK.out _ _ (Ext.refl _) h8 (FreshIf.no rfl) }) ?_
  refine RgAll.cons (by { (with_reducible refine RgL.mk (by rfl) ?_); intro v a w' hE hd hf; have ev0 := hf.lit 3 (.pointer (some ⟨w.heap.size + 1, 0, none⟩)) (by kernel_rfl) (by kernel_rfl); obtain ⟨s8, a8, n8, c8, b8, h8⟩ := (S.mono hE).at 1 (w.heap.size + 1) (IsI k2 z2) rfl; have L0 := b8.c0; have L1 := b8.c1; clear hd hf; intro K hK; go_simp; exact hK.out _ _ (Ext.refl _) h8 (FreshIf.no rfl) }) ?_
  refine RgAll.cons (by { (with_reducible refine RgL.mk (by rfl) ?_); intro v a w' hE hd hf; have d0 : (IsI k1 z1) (v 0) w' := hd 0 (by kernel_rfl); have ev0 := hf.val 0 9 _ rfl (by kernel_rfl) (by kernel_rfl) (by kernel_rfl); have d1 : (IsI k2 z2) (v 1) w' := hd 1 (by kernel_rfl); have ev1 := hf.val 1 10 _ rfl (by kernel_rfl) (by kernel_rfl) (by kernel_rfl); clear hd hf; intro K hK; go_simp; go_at_call 126; go_split_ands; (with_reducible refine Calls.mono (RDivMod_f d0 d1 l1 l2 HZ.out) ?_); rintro e w2 ⟨x, rfl, e2, hx⟩; exact hK.out _ _ e2 hx (FreshIf.no rfl) }) ?_
  refine RgAll.cons (by { (with_reducible refine RgL.mk (by rfl) ?_); intro v a w' hE hd hf; have d0 : (IsT3 (IsI k1 (z1 / z2)) (IsI k2 (z1 % z2)) (IsV (.int .i64 0))) (v 2) w' := hd 2 (by kernel_rfl); have ev0 := hf.val 2 11 _ rfl (by kernel_rfl) (by kernel_rfl) (by kernel_rfl); clear hd hf; intro K hK; go_simp; exact hK.out _ _ (Ext.refl _) d0 (FreshIf.no rfl) }) ?_
  refine RgAll.cons (by { (with_reducible refine RgL.mk (by rfl) ?_); intro v a w' hE hd hf; have d0 : (IsT3 (IsI k1 (z1 / z2)) (IsI k2 (z1 % z2)) (IsV (.int .i64 0))) (v 3) w' := hd 3 (by kernel_rfl); obtain ⟨x0, x1, x2, z0, y0, y1, y2⟩ := d0; have ev0 := hf.val 3 8 _ z0 (by kernel_rfl) (by kernel_rfl) (by kernel_rfl); clear z0; clear hd hf; intro K hK; go_simp; exact hK.out _ _ (Ext.refl _) y0 (FreshIf.no rfl) }) ?_
  refine RgAll.cons (by { (with_reducible refine RgL.mk (by rfl) ?_); intro v a w' hE hd hf; have d0 : (IsT3 (IsI k1 (z1 / z2)) (IsI k2 (z1 % z2)) (IsV (.int .i64 0))) (v 3) w' := hd 3 (by kernel_rfl); obtain ⟨x0, x1, x2, z0, y0, y1, y2⟩ := d0; have ev0 := hf.val 3 8 _ z0 (by kernel_rfl) (by kernel_rfl) (by kernel_rfl); clear z0; clear hd hf; intro K hK; go_simp; exact hK.out _ _ (Ext.refl _) y1 (FreshIf.no rfl) }) ?_
  refine RgAll.cons (by { (with_reducible refine RgL.mk (by rfl) ?_); intro v a w' hE hd hf; have d0 : (IsT3 (IsI k1 (z1 / z2)) (IsI k2 (z1 % z2)) (IsV (.int .i64 0))) (v 3) w' := hd 3 (by kernel_rfl); obtain ⟨x0, x1, x2, z0, y0, y1, y2⟩ := d0; have ev0 := hf.val 3 8 _ z0 (by kernel_rfl) (by kernel_rfl) (by kernel_rfl); clear z0; clear hd hf; intro K hK; go_simp; exact hK.out _ _ (Ext.refl _) y2 (FreshIf.no rfl) }) ?_
  refine RgAll.cons (by { (with_reducible refine RgL.mk (by rfl) ?_); intro v a w' hE hd hf; skip; clear hd hf; intro K hK; go_simp; refine hK.out _ _ ((Ext.refl _).alloc _) ⟨_, rfl, hE.size, Bx.new _ _ _ _ _⟩ FreshIf.yes }) ?_
  refine RgAll.cons (by { (with_reducible refine RgL.mk (by rfl) ?_); intro v a w' hE hd hf; skip; clear hd hf; intro K hK; go_simp; refine hK.out _ _ ((Ext.refl _).alloc _) ⟨_, rfl, hE.size, Bx.new _ _ _ _ _⟩ FreshIf.yes }) ?_
  exact RgAll.nil
 intro v W1 e1 hΦ hne
 replace S := S.mono e1
 obtain ⟨s12, a12, n12, c12, v4, h12⟩ := (hΦ 4 (by decide) : IsI k1 (z1 / z2) (v 4) W1)
 obtain ⟨s13, a13, n13, c13, v5, h13⟩ := (hΦ 5 (by decide) : IsI k2 (z1 % z2) (v 5) W1)
 have v6 : v 6 = .int .i64 0 := hΦ 6 (by decide)
 obtain ⟨g5, v7, q2, b1⟩ := (hΦ 7 (by decide) : IsB W (v 7) W1)
 replace S := S.addN (Apart.old hl.out q2) (Nat.le_trans hw q2) b1
 clear b1
 obtain ⟨g6, v8, q4, b3⟩ := (hΦ 8 (by decide) : IsB W (v 8) W1)
 replace S := S.addN (Apart.cons (fun h => hne 7 8 (by decide) (by decide) (by decide) (by decide) (by decide) (by rw [v7, v8, h])) (Apart.old hl.out q4)) (Nat.le_trans hw q4) b3
 clear b3
 clear hne
 simp only [layL, Act.put, uAx, u0x, u1x, Nat.reduceAdd]
 rw [v4, v5, v6, v7, v8]
 clear v4 v5 v6 v7 v8
 clear hΦ
 clear hl hw
 clear e1
 obtain ⟨s8, a8, n8, c8, b8, _⟩ := S.at 1 (g5) (IsI 0 0) rfl; have F1 := b8.c0; have F2 := b8.c1; have F3 := b8.f0; have F4 := b8.f1
 refine wpList_step fun K hK => ?_; go_simp; refine hK _ _ ?_; clear hK K
 clear F1 F2 F3 F4 b8
 obtain ⟨W2, hW, S2, G2, _⟩ := S.put 1 (g5) (IsI 0 0) (IsI k1 (z1 / z2)) rfl s12 a12 n12 c12 (IsI.gstb _ _) ⟨_, _, _, _, rfl, h12⟩
 rw [← hW]; clear hW S
 replace h13 := h13.gr G2
 have S : St w W2 [(g6, IsI 0 0), (g5, IsI k1 (z1 / z2)), (w.heap.size + 1 + 1, IsI 0 0), (w.heap.size + 1, IsI k2 z2), (w.heap.size, IsI k1 z1)] := S2; clear S2 G2
 clear h12
 obtain ⟨s8, a8, n8, c8, b8, _⟩ := S.at 0 (g6) (IsI 0 0) rfl; have F1 := b8.c0; have F2 := b8.c1; have F3 := b8.f0; have F4 := b8.f1
 refine wpList_step fun K hK => ?_; go_simp; refine hK _ _ ?_; clear hK K
 clear F1 F2 F3 F4 b8
 obtain ⟨W3, hW, S2, G2, _⟩ := S.put 0 (g6) (IsI 0 0) (IsI k2 (z1 % z2)) rfl s13 a13 n13 c13 (IsI.gstb _ _) ⟨_, _, _, _, rfl, h13⟩
 rw [← hW]; clear hW S
 have S : St w W3 [(g6, IsI k2 (z1 % z2)), (g5, IsI k1 (z1 / z2)), (w.heap.size + 1 + 1, IsI 0 0), (w.heap.size + 1, IsI k2 z2), (w.heap.size, IsI k1 z1)] := S2; clear S2 G2
 clear h13
 refine wpList_step fun K hK => ?_; go_simp; refine hK _ _ ?_; clear hK K
 refine wpList_nil ?_
 go_upto_region 2 with (fail)
 refine wp_region_rgs 1 [some 15] [IsI k2 (z1 % z2)] [] (by decide) (by kernel_rfl) (by kernel_rfl) (by kernel_rfl) ?_ ?_ ?_ ?_
 ·repeat' (first | exact trivial | exact IsV.stb _ | exact IsW.stb _ | exact IsWk.stb _ _ | exact IsI.stb _ _ | exact IsB.stb _ | exact IsR.stb _ _ | exact IsMag.stb _ _ | exact IsPos.stb | apply IsT3.stb | apply IsT2.stb | apply And.intro)
 ·exact (fun _ h => by cases h)
 ·refine RgAll.cons (by { (with_reducible refine RgL.mk (by rfl) ?_); intro v a w' hE hd hf; have ev0 := hf.lit 6 (.pointer (some ⟨g6, 0, none⟩)) (by kernel_rfl) (by kernel_rfl); obtain ⟨s8, a8, n8, c8, b8, h8⟩ := (S.mono hE).at 0 (g6) (IsI k2 (z1 % z2)) rfl; have L0 := b8.c0; have L1 := b8.c1; clear hd hf; intro K hK; go_simp; exact hK.out _ _ (Ext.refl _) h8 (FreshIf.no rfl) }) ?_
  exact RgAll.nil
 intro v W4 e1 hΦ _
 replace S := S.mono e1
 obtain ⟨s15, a15, n15, c15, v0, h15⟩ := (hΦ 0 (by decide) : IsI k2 (z1 % z2) (v 0) W4)
 simp only [layL, Act.put, uAx, u0x, u1x]
 rw [v0]
 clear v0
 clear hΦ
 clear e1
 obtain ⟨s8, a8, n8, c8, b8, _⟩ := S.at 2 (w.heap.size + 1 + 1) (IsI 0 0) rfl; have F1 := b8.c0; have F2 := b8.c1; have F3 := b8.f0; have F4 := b8.f1
 refine wpList_step fun K hK => ?_; go_simp; refine hK _ _ ?_; clear hK K
 clear F1 F2 F3 F4 b8
 obtain ⟨W5, hW, S2, G2, _⟩ := S.put 2 (w.heap.size + 1 + 1) (IsI 0 0) (IsI k2 (z1 % z2)) rfl s15 a15 n15 c15 (IsI.gstb _ _) ⟨_, _, _, _, rfl, h15⟩
 rw [← hW]; clear hW S
 have S : St w W5 [(g6, IsI k2 (z1 % z2)), (g5, IsI k1 (z1 / z2)), (w.heap.size + 1 + 1, IsI k2 (z1 % z2)), (w.heap.size + 1, IsI k2 z2), (w.heap.size, IsI k1 z1)] := S2; clear S2 G2
 clear h15
 refine wpList_nil ?_
 go_wp2_with fail
 obtain ⟨rs0, ra0, rn0, rc0, rb0, rh0⟩ := S.at 2 (w.heap.size + 1 + 1) (IsI k2 (z1 % z2)) rfl; have T0 := rb0.c0; have U0 := rb0.c1
 exact bodyPost_ret (v := .agg #[.bool rs0, .slice ra0 rn0 rc0]) (by simp [results, Tryz.results125, go_sem, T0, U0]) rfl (⟨_, rfl, S.ext, rh0⟩)
end Go.Proofs.YtkeikfekkdplgaaGreatDoor
