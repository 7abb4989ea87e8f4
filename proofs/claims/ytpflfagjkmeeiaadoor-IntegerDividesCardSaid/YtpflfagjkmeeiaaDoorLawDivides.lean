/-
  The statement IntegerDivides: for every three descriptions of integers the law answers true, and the descriptions read behind the call as they read before. The listed package variables hold what the program's text lays (the card ties them).
-/
import Derived.Test.YtpflfagjkmeeiaaDoorEx
import Derived.Test.YtpflfagjkmeeiaaDoorRead
import Derived.Test.YtpflfagjkmeeiaaDoorTie
import Derived.Test.YtpflfagjkmeeiaaDoorCards
import Derived.SevenTiedAt
namespace Go.Proofs.YtpflfagjkmeeiaaDoor
open Go Go.RowKit

set_option maxRecDepth 100000 in
set_option maxHeartbeats 4000000 in
theorem Divides_0 (w : World) (s1 s2 s3 : Bool) (a1 a2 a3 : Option Addr) (n1 n2 n3 c1 c2 c3 : Nat) (x1 x2 x3 : List Nat) (h1 : Wd w a1 n1 c1 x1) (h2 : Wd w a2 n2 c2 x2) (h3 : Wd w a3 n3 c3 x3) (ht : Tab w) (za zb zc : Int) (ha : rawZ s1 x1 12 = za) (hb : rawZ s2 x2 12 = zb) (hc : rawZ s3 x3 12 = zc) (hz : zb = 0) :
    Calls Tryd.prog 3 #[.agg #[.bool s1, .slice a1 n1 c1], .agg #[.bool s2, .slice a2 n2 c2], .agg #[.bool s3, .slice a3 n3 c3]] w (Ret w (IsV (.bool true))) := by
  have Ha := hid ha
  have Hb := hid hb
  have Hc := hid hc
  have HZ := hid hz
  clear ha hb hc hz
  obtain ⟨W, hW, S⟩ : ∃ W, W = ((w.alloc (.cells #[.bool s1, .slice a1 n1 c1] 24)).alloc (.cells #[.bool s2, .slice a2 n2 c2] 24)).alloc (.cells #[.bool s3, .slice a3 n3 c3] 24) ∧ St w W [(w.heap.size + 1 + 1, IsR s3 x3), (w.heap.size + 1, IsR s2 x2), (w.heap.size, IsR s1 x1)] := ⟨_, rfl, ((((St.start w).new' (w.heap.size) (by simp) s1 a1 n1 c1 24 (IsR s1 x1) (IsR.gstb _ _) ⟨_, _, _, rfl, h1⟩).new' (w.heap.size + 1) (by simp) s2 a2 n2 c2 24 (IsR s2 x2) (IsR.gstb _ _) ⟨_, _, _, rfl, h2.ext ((Ext.refl _).alloc _)⟩).new' (w.heap.size + 1 + 1) (by simp) s3 a3 n3 c3 24 (IsR s3 x3) (IsR.gstb _ _) ⟨_, _, _, rfl, h3.ext (((Ext.refl _).alloc _).alloc _)⟩)⟩
  clear h1 h2 h3
  go_enter Tryd.func3, Tryd.ntmps3
  go_upto_region 1 with (fail)
  rw [← hW]
  clear hW
  refine wp_region_rgs 2 [some 32, some 7] [IsV (.bool true), IsV (.bool true)] [] (by decide) (by kernel_rfl) (by kernel_rfl) (by kernel_rfl) ?_ ?_ ?_ ?_
  · repeat' (first | exact trivial | exact IsV.stb _ | exact IsI.stb _ _ | exact IsB.stb _ | exact IsR.stb _ _ | exact IsMag.stb _ _ | exact IsPos.stb | apply IsT3.stb | apply IsT2.stb | apply And.intro)
  · exact (fun _ h => by cases h)
  · refine RgAll.cons (by { (with_reducible refine RgL.mk (by rfl) ?_); intro v a w' hE hd hf; skip; clear hd hf; intro K hK; go_simp; go_at_call 9; go_split_ands; (with_reducible refine Calls.mono (examples_f _ (ht.ext (S.ext.trans hE))) ?_); rintro e w2 ⟨x, rfl, e2, hx⟩; exact hK.out _ _ e2 hx (FreshIf.no rfl) }) ?_
    refine RgAll.cons (by { (with_reducible refine RgL.mk (by rfl) ?_); intro v a w' hE hd hf; have d0 : v 0 = .bool true := hd 0 (by kernel_rfl); have ev0 := hf.val 0 32 _ d0 (by kernel_rfl) (by kernel_rfl) (by kernel_rfl); clear d0; clear hd hf; intro K hK; go_simp; exact hK.out _ _ (Ext.refl _) rfl (FreshIf.no rfl) }) ?_
    exact RgAll.nil
  intro v W1 e1 hΦ _
  replace S := S.mono e1
  have v1 : v 1 = .bool true := hΦ 1 (by decide)
  simp only [layL, Act.put, List.setIfInBounds_toArray, List.set_cons_zero, List.set_cons_succ, Nat.reduceAdd]
  rw [v1]
  clear v1
  clear hΦ
  clear e1
  refine wpList_nil ?_
  go_upto_region 4 with (fail)
  have hl := hid S.lt; have hw := S.ext.size
  refine wp_region_rgs 3 [some 35, some 36, some 8] [IsR s1 x1, IsI 12 za, IsB W1] [2] (by decide) (by kernel_rfl) (by kernel_rfl) (by kernel_rfl) ?_ ?_ ?_ ?_
  · repeat' (first | exact trivial | exact IsV.stb _ | exact IsI.stb _ _ | exact IsB.stb _ | exact IsR.stb _ _ | exact IsMag.stb _ _ | exact IsPos.stb | apply IsT3.stb | apply IsT2.stb | apply And.intro)
  · intro i hi; simp only [List.mem_cons, List.not_mem_nil, or_false] at hi; subst hi; exact IsB.box _
  · refine RgAll.cons (by { (with_reducible refine RgL.mk (by rfl) ?_); intro v a w' hE hd hf; have ev0 := hf.lit 3 (.pointer (some ⟨w.heap.size, 0, none⟩)) (by kernel_rfl) (by kernel_rfl); obtain ⟨s8, a8, n8, c8, b8, h8⟩ := (S.mono hE).at 2 (w.heap.size) (IsR s1 x1) rfl; have L0 := b8.c0; have L1 := b8.c1; clear hd hf; intro K hK; go_simp; exact hK.out _ _ (Ext.refl _) h8 (FreshIf.no rfl) }) ?_
    refine RgAll.cons (by { (with_reducible refine RgL.mk (by rfl) ?_); intro v a w' hE hd hf; have d0 : (IsR s1 x1) (v 0) w' := hd 0 (by kernel_rfl); have ev0 := hf.val 0 35 _ rfl (by kernel_rfl) (by kernel_rfl) (by kernel_rfl); clear hd hf; intro K hK; go_simp; go_at_call 10; go_split_ands; (with_reducible refine Calls.mono (Calls.mono (Made_f d0 (by decide)) fun _ _ h => h.eqz Ha.out) ?_); rintro e w2 ⟨x, rfl, e2, hx⟩; exact hK.out _ _ e2 hx (FreshIf.no rfl) }) ?_
    refine RgAll.cons (by { (with_reducible refine RgL.mk (by rfl) ?_); intro v a w' hE hd hf; skip; clear hd hf; intro K hK; go_simp; refine hK.out _ _ ((Ext.refl _).alloc _) ⟨_, rfl, hE.size, Bx.new _ _ _ _ _⟩ FreshIf.yes }) ?_
    exact RgAll.nil
  intro v W2 e1 hΦ _
  replace S := S.mono e1
  obtain ⟨s36, a36, n36, c36, v1, h36⟩ := (hΦ 1 (by decide) : IsI 12 za (v 1) W2)
  obtain ⟨g8, v2, q2, b1⟩ := (hΦ 2 (by decide) : IsB W1 (v 2) W2)
  replace S := S.addN (Apart.old hl.out q2) (Nat.le_trans hw q2) b1
  clear b1
  simp only [layL, Act.put, List.setIfInBounds_toArray, List.set_cons_zero, List.set_cons_succ, Nat.reduceAdd]
  rw [v1, v2]
  clear v1 v2
  clear hΦ
  clear hl hw
  clear e1
  obtain ⟨s8, a8, n8, c8, b8, _⟩ := S.at 0 (g8) (IsI 0 0) rfl; have F1 := b8.c0; have F2 := b8.c1; have F3 := b8.f0; have F4 := b8.f1
  refine wpList_step fun K hK => ?_; go_simp; refine hK _ _ ?_; clear hK K
  clear F1 F2 F3 F4 b8
  obtain ⟨W3, hW, S2, G2, _⟩ := S.put 0 (g8) (IsI 0 0) (IsI 12 za) rfl s36 a36 n36 c36 (IsI.gstb _ _) ⟨_, _, _, _, rfl, h36⟩
  rw [← hW]; clear hW S
  have S : St w W3 [(g8, IsI 12 za), (w.heap.size + 1 + 1, IsR s3 x3), (w.heap.size + 1, IsR s2 x2), (w.heap.size, IsR s1 x1)] := S2; clear S2 G2
  clear h36
  refine wpList_nil ?_
  go_upto_region 5 with (fail)
  have hl := hid S.lt; have hw := S.ext.size
  refine wp_region_rgs 3 [some 37, some 38, some 9] [IsR s2 x2, IsI 12 zb, IsB W3] [2] (by decide) (by kernel_rfl) (by kernel_rfl) (by kernel_rfl) ?_ ?_ ?_ ?_
  · repeat' (first | exact trivial | exact IsV.stb _ | exact IsI.stb _ _ | exact IsB.stb _ | exact IsR.stb _ _ | exact IsMag.stb _ _ | exact IsPos.stb | apply IsT3.stb | apply IsT2.stb | apply And.intro)
  · intro i hi; simp only [List.mem_cons, List.not_mem_nil, or_false] at hi; subst hi; exact IsB.box _
  · refine RgAll.cons (by { (with_reducible refine RgL.mk (by rfl) ?_); intro v a w' hE hd hf; have ev0 := hf.lit 4 (.pointer (some ⟨w.heap.size + 1, 0, none⟩)) (by kernel_rfl) (by kernel_rfl); obtain ⟨s8, a8, n8, c8, b8, h8⟩ := (S.mono hE).at 2 (w.heap.size + 1) (IsR s2 x2) rfl; have L0 := b8.c0; have L1 := b8.c1; clear hd hf; intro K hK; go_simp; exact hK.out _ _ (Ext.refl _) h8 (FreshIf.no rfl) }) ?_
    refine RgAll.cons (by { (with_reducible refine RgL.mk (by rfl) ?_); intro v a w' hE hd hf; have d0 : (IsR s2 x2) (v 0) w' := hd 0 (by kernel_rfl); have ev0 := hf.val 0 37 _ rfl (by kernel_rfl) (by kernel_rfl) (by kernel_rfl); clear hd hf; intro K hK; go_simp; go_at_call 10; go_split_ands; (with_reducible refine Calls.mono (Calls.mono (Made_f d0 (by decide)) fun _ _ h => h.eqz Hb.out) ?_); rintro e w2 ⟨x, rfl, e2, hx⟩; exact hK.out _ _ e2 hx (FreshIf.no rfl) }) ?_
    refine RgAll.cons (by { (with_reducible refine RgL.mk (by rfl) ?_); intro v a w' hE hd hf; skip; clear hd hf; intro K hK; go_simp; refine hK.out _ _ ((Ext.refl _).alloc _) ⟨_, rfl, hE.size, Bx.new _ _ _ _ _⟩ FreshIf.yes }) ?_
    exact RgAll.nil
  intro v W4 e1 hΦ _
  replace S := S.mono e1
  obtain ⟨s38, a38, n38, c38, v1, h38⟩ := (hΦ 1 (by decide) : IsI 12 zb (v 1) W4)
  obtain ⟨g9, v2, q4, b3⟩ := (hΦ 2 (by decide) : IsB W3 (v 2) W4)
  replace S := S.addN (Apart.old hl.out q4) (Nat.le_trans hw q4) b3
  clear b3
  simp only [layL, Act.put, List.setIfInBounds_toArray, List.set_cons_zero, List.set_cons_succ, Nat.reduceAdd]
  rw [v1, v2]
  clear v1 v2
  clear hΦ
  clear hl hw
  clear e1
  obtain ⟨s8, a8, n8, c8, b8, _⟩ := S.at 0 (g9) (IsI 0 0) rfl; have F1 := b8.c0; have F2 := b8.c1; have F3 := b8.f0; have F4 := b8.f1
  refine wpList_step fun K hK => ?_; go_simp; refine hK _ _ ?_; clear hK K
  clear F1 F2 F3 F4 b8
  obtain ⟨W5, hW, S2, G2, _⟩ := S.put 0 (g9) (IsI 0 0) (IsI 12 zb) rfl s38 a38 n38 c38 (IsI.gstb _ _) ⟨_, _, _, _, rfl, h38⟩
  rw [← hW]; clear hW S
  have S : St w W5 [(g9, IsI 12 zb), (g8, IsI 12 za), (w.heap.size + 1 + 1, IsR s3 x3), (w.heap.size + 1, IsR s2 x2), (w.heap.size, IsR s1 x1)] := S2; clear S2 G2
  clear h38
  refine wpList_nil ?_
  go_upto_region 6 with (fail)
  have hl := hid S.lt; have hw := S.ext.size
  refine wp_region_rgs 3 [some 39, some 40, some 10] [IsR s3 x3, IsI 12 zc, IsB W5] [2] (by decide) (by kernel_rfl) (by kernel_rfl) (by kernel_rfl) ?_ ?_ ?_ ?_
  · repeat' (first | exact trivial | exact IsV.stb _ | exact IsI.stb _ _ | exact IsB.stb _ | exact IsR.stb _ _ | exact IsMag.stb _ _ | exact IsPos.stb | apply IsT3.stb | apply IsT2.stb | apply And.intro)
  · intro i hi; simp only [List.mem_cons, List.not_mem_nil, or_false] at hi; subst hi; exact IsB.box _
  · refine RgAll.cons (by { (with_reducible refine RgL.mk (by rfl) ?_); intro v a w' hE hd hf; have ev0 := hf.lit 5 (.pointer (some ⟨w.heap.size + 1 + 1, 0, none⟩)) (by kernel_rfl) (by kernel_rfl); obtain ⟨s8, a8, n8, c8, b8, h8⟩ := (S.mono hE).at 2 (w.heap.size + 1 + 1) (IsR s3 x3) rfl; have L0 := b8.c0; have L1 := b8.c1; clear hd hf; intro K hK; go_simp; exact hK.out _ _ (Ext.refl _) h8 (FreshIf.no rfl) }) ?_
    refine RgAll.cons (by { (with_reducible refine RgL.mk (by rfl) ?_); intro v a w' hE hd hf; have d0 : (IsR s3 x3) (v 0) w' := hd 0 (by kernel_rfl); have ev0 := hf.val 0 39 _ rfl (by kernel_rfl) (by kernel_rfl) (by kernel_rfl); clear hd hf; intro K hK; go_simp; go_at_call 10; go_split_ands; (with_reducible refine Calls.mono (Calls.mono (Made_f d0 (by decide)) fun _ _ h => h.eqz Hc.out) ?_); rintro e w2 ⟨x, rfl, e2, hx⟩; exact hK.out _ _ e2 hx (FreshIf.no rfl) }) ?_
    refine RgAll.cons (by { (with_reducible refine RgL.mk (by rfl) ?_); intro v a w' hE hd hf; skip; clear hd hf; intro K hK; go_simp; refine hK.out _ _ ((Ext.refl _).alloc _) ⟨_, rfl, hE.size, Bx.new _ _ _ _ _⟩ FreshIf.yes }) ?_
    exact RgAll.nil
  intro v W6 e1 hΦ _
  replace S := S.mono e1
  obtain ⟨s40, a40, n40, c40, v1, h40⟩ := (hΦ 1 (by decide) : IsI 12 zc (v 1) W6)
  obtain ⟨g10, v2, q6, b5⟩ := (hΦ 2 (by decide) : IsB W5 (v 2) W6)
  replace S := S.addN (Apart.old hl.out q6) (Nat.le_trans hw q6) b5
  clear b5
  simp only [layL, Act.put, List.setIfInBounds_toArray, List.set_cons_zero, List.set_cons_succ, Nat.reduceAdd]
  rw [v1, v2]
  clear v1 v2
  clear hΦ
  clear hl hw
  clear e1
  obtain ⟨s8, a8, n8, c8, b8, _⟩ := S.at 0 (g10) (IsI 0 0) rfl; have F1 := b8.c0; have F2 := b8.c1; have F3 := b8.f0; have F4 := b8.f1
  refine wpList_step fun K hK => ?_; go_simp; refine hK _ _ ?_; clear hK K
  clear F1 F2 F3 F4 b8
  obtain ⟨W7, hW, S2, G2, _⟩ := S.put 0 (g10) (IsI 0 0) (IsI 12 zc) rfl s40 a40 n40 c40 (IsI.gstb _ _) ⟨_, _, _, _, rfl, h40⟩
  rw [← hW]; clear hW S
  have S : St w W7 [(g10, IsI 12 zc), (g9, IsI 12 zb), (g8, IsI 12 za), (w.heap.size + 1 + 1, IsR s3 x3), (w.heap.size + 1, IsR s2 x2), (w.heap.size, IsR s1 x1)] := S2; clear S2 G2
  clear h40
  refine wpList_nil ?_
  go_upto_region 7 with (fail)
  have hl := hid S.lt; have hw := S.ext.size
  refine wp_region_rgs 9 [some 42, some 43, some 44, some 41, some 45, some 46, some 47, some 11, some 12] [IsI 12 za, IsI 12 zb, IsT3 (IsI 0 0) (IsI 0 0) (IsV (.int .i64 4)), IsT3 (IsI 0 0) (IsI 0 0) (IsV (.int .i64 4)), IsI 0 0, IsI 0 0, IsV (.int .i64 4), IsB W7, IsB W7] [7, 8] (by decide) (by kernel_rfl) (by kernel_rfl) (by kernel_rfl) ?_ ?_ ?_ ?_
  · repeat' (first | exact trivial | exact IsV.stb _ | exact IsI.stb _ _ | exact IsB.stb _ | exact IsR.stb _ _ | exact IsMag.stb _ _ | exact IsPos.stb | apply IsT3.stb | apply IsT2.stb | apply And.intro)
  · intro i hi; simp only [List.mem_cons, List.not_mem_nil, or_false] at hi; rcases hi with rfl | rfl <;> exact IsB.box _
  · refine RgAll.cons (by { (with_reducible refine RgL.mk (by rfl) ?_); intro v a w' hE hd hf; have ev0 := hf.lit 8 (.pointer (some ⟨g8, 0, none⟩)) (by kernel_rfl) (by kernel_rfl); obtain ⟨s8, a8, n8, c8, b8, h8⟩ := (S.mono hE).at 2 (g8) (IsI 12 za) rfl; have L0 := b8.c0; have L1 := b8.c1; clear hd hf; intro K hK; go_simp; exact hK.out _ _ (Ext.refl _) h8 (FreshIf.no rfl) }) ?_
    refine RgAll.cons (by { (with_reducible refine RgL.mk (by rfl) ?_); intro v a w' hE hd hf; have ev0 := hf.lit 9 (.pointer (some ⟨g9, 0, none⟩)) (by kernel_rfl) (by kernel_rfl); obtain ⟨s8, a8, n8, c8, b8, h8⟩ := (S.mono hE).at 1 (g9) (IsI 12 zb) rfl; have L0 := b8.c0; have L1 := b8.c1; clear hd hf; intro K hK; go_simp; exact hK.out _ _ (Ext.refl _) h8 (FreshIf.no rfl) }) ?_
    refine RgAll.cons (by { (with_reducible refine RgL.mk (by rfl) ?_); intro v a w' hE hd hf; have d0 : (IsI 12 za) (v 0) w' := hd 0 (by kernel_rfl); have ev0 := hf.val 0 42 _ rfl (by kernel_rfl) (by kernel_rfl) (by kernel_rfl); have d1 : (IsI 12 zb) (v 1) w' := hd 1 (by kernel_rfl); have ev1 := hf.val 1 43 _ rfl (by kernel_rfl) (by kernel_rfl) (by kernel_rfl); clear hd hf; intro K hK; go_simp; go_at_call 11; go_split_ands; (with_reducible refine Calls.mono (DivMod0_f d0 (by have hz := HZ.out; rw [hz] at d1; exact d1)) ?_); rintro e w2 ⟨x, rfl, e2, hx⟩; exact hK.out _ _ e2 hx (FreshIf.no rfl) }) ?_
    refine RgAll.cons (by { (with_reducible refine RgL.mk (by rfl) ?_); intro v a w' hE hd hf; have d0 : (IsT3 (IsI 0 0) (IsI 0 0) (IsV (.int .i64 4))) (v 2) w' := hd 2 (by kernel_rfl); have ev0 := hf.val 2 44 _ rfl (by kernel_rfl) (by kernel_rfl) (by kernel_rfl); clear hd hf; intro K hK; go_simp; exact hK.out _ _ (Ext.refl _) d0 (FreshIf.no rfl) }) ?_
    refine RgAll.cons (by { (with_reducible refine RgL.mk (by rfl) ?_); intro v a w' hE hd hf; have d0 : (IsT3 (IsI 0 0) (IsI 0 0) (IsV (.int .i64 4))) (v 3) w' := hd 3 (by kernel_rfl); obtain ⟨x0, x1, x2, z0, y0, y1, y2⟩ := d0; have ev0 := hf.val 3 41 _ z0 (by kernel_rfl) (by kernel_rfl) (by kernel_rfl); clear z0; clear hd hf; intro K hK; go_simp; exact hK.out _ _ (Ext.refl _) y0 (FreshIf.no rfl) }) ?_
    refine RgAll.cons (by { (with_reducible refine RgL.mk (by rfl) ?_); intro v a w' hE hd hf; have d0 : (IsT3 (IsI 0 0) (IsI 0 0) (IsV (.int .i64 4))) (v 3) w' := hd 3 (by kernel_rfl); obtain ⟨x0, x1, x2, z0, y0, y1, y2⟩ := d0; have ev0 := hf.val 3 41 _ z0 (by kernel_rfl) (by kernel_rfl) (by kernel_rfl); clear z0; clear hd hf; intro K hK; go_simp; exact hK.out _ _ (Ext.refl _) y1 (FreshIf.no rfl) }) ?_
    refine RgAll.cons (by { (with_reducible refine RgL.mk (by rfl) ?_); intro v a w' hE hd hf; have d0 : (IsT3 (IsI 0 0) (IsI 0 0) (IsV (.int .i64 4))) (v 3) w' := hd 3 (by kernel_rfl); obtain ⟨x0, x1, x2, z0, y0, y1, y2⟩ := d0; have ev0 := hf.val 3 41 _ z0 (by kernel_rfl) (by kernel_rfl) (by kernel_rfl); clear z0; clear hd hf; intro K hK; go_simp; exact hK.out _ _ (Ext.refl _) y2 (FreshIf.no rfl) }) ?_
    refine RgAll.cons (by { (with_reducible refine RgL.mk (by rfl) ?_); intro v a w' hE hd hf; skip; clear hd hf; intro K hK; go_simp; refine hK.out _ _ ((Ext.refl _).alloc _) ⟨_, rfl, hE.size, Bx.new _ _ _ _ _⟩ FreshIf.yes }) ?_
    refine RgAll.cons (by { (with_reducible refine RgL.mk (by rfl) ?_); intro v a w' hE hd hf; skip; clear hd hf; intro K hK; go_simp; refine hK.out _ _ ((Ext.refl _).alloc _) ⟨_, rfl, hE.size, Bx.new _ _ _ _ _⟩ FreshIf.yes }) ?_
    exact RgAll.nil
  intro v W8 e1 hΦ hne
  replace S := S.mono e1
  obtain ⟨s45, a45, n45, c45, v4, h45⟩ := (hΦ 4 (by decide) : IsI 0 0 (v 4) W8)
  obtain ⟨s46, a46, n46, c46, v5, h46⟩ := (hΦ 5 (by decide) : IsI 0 0 (v 5) W8)
  have v6 : v 6 = .int .i64 4 := hΦ 6 (by decide)
  obtain ⟨g11, v7, q8, b7⟩ := (hΦ 7 (by decide) : IsB W7 (v 7) W8)
  replace S := S.addN (Apart.old hl.out q8) (Nat.le_trans hw q8) b7
  clear b7
  obtain ⟨g12, v8, q10, b9⟩ := (hΦ 8 (by decide) : IsB W7 (v 8) W8)
  replace S := S.addN (Apart.cons (fun h => hne 7 8 (by decide) (by decide) (by decide) (by decide) (by decide) (by rw [v7, v8, h])) (Apart.old hl.out q10)) (Nat.le_trans hw q10) b9
  clear b9
  clear hne
  simp only [layL, Act.put, List.setIfInBounds_toArray, List.set_cons_zero, List.set_cons_succ, Nat.reduceAdd]
  rw [v4, v5, v6, v7, v8]
  clear v4 v5 v6 v7 v8
  clear hΦ
  clear hl hw
  clear e1
  obtain ⟨s8, a8, n8, c8, b8, _⟩ := S.at 1 (g11) (IsI 0 0) rfl; have F1 := b8.c0; have F2 := b8.c1; have F3 := b8.f0; have F4 := b8.f1
  refine wpList_step fun K hK => ?_; go_simp; refine hK _ _ ?_; clear hK K
  clear F1 F2 F3 F4 b8
  obtain ⟨W9, hW, S2, G2, _⟩ := S.put 1 (g11) (IsI 0 0) (IsI 0 0) rfl s45 a45 n45 c45 (IsI.gstb _ _) ⟨_, _, _, _, rfl, h45⟩
  rw [← hW]; clear hW S
  replace h46 := h46.gr G2
  have S : St w W9 [(g12, IsI 0 0), (g11, IsI 0 0), (g10, IsI 12 zc), (g9, IsI 12 zb), (g8, IsI 12 za), (w.heap.size + 1 + 1, IsR s3 x3), (w.heap.size + 1, IsR s2 x2), (w.heap.size, IsR s1 x1)] := S2; clear S2 G2
  clear h45
  obtain ⟨s8, a8, n8, c8, b8, _⟩ := S.at 0 (g12) (IsI 0 0) rfl; have F1 := b8.c0; have F2 := b8.c1; have F3 := b8.f0; have F4 := b8.f1
  refine wpList_step fun K hK => ?_; go_simp; refine hK _ _ ?_; clear hK K
  clear F1 F2 F3 F4 b8
  obtain ⟨W10, hW, S2, G2, _⟩ := S.put 0 (g12) (IsI 0 0) (IsI 0 0) rfl s46 a46 n46 c46 (IsI.gstb _ _) ⟨_, _, _, _, rfl, h46⟩
  rw [← hW]; clear hW S
  have S : St w W10 [(g12, IsI 0 0), (g11, IsI 0 0), (g10, IsI 12 zc), (g9, IsI 12 zb), (g8, IsI 12 za), (w.heap.size + 1 + 1, IsR s3 x3), (w.heap.size + 1, IsR s2 x2), (w.heap.size, IsR s1 x1)] := S2; clear S2 G2
  clear h46
  refine wpList_step fun K hK => ?_; go_simp; refine hK _ _ ?_; clear hK K
  refine wpList_nil ?_
  go_upto_region 8 with (fail)
  refine wp_region_rgs 4 [some 48, some 49, some 50, some 51] [IsV (.pointer (some ⟨g9, 1, none⟩)), IsMag 12 zb, IsV (.int .i64 0), IsV (.bool true)] [] (by decide) (by kernel_rfl) (by kernel_rfl) (by kernel_rfl) ?_ ?_ ?_ ?_
  · repeat' (first | exact trivial | exact IsV.stb _ | exact IsI.stb _ _ | exact IsB.stb _ | exact IsR.stb _ _ | exact IsMag.stb _ _ | exact IsPos.stb | apply IsT3.stb | apply IsT2.stb | apply And.intro)
  · exact (fun _ h => by cases h)
  · refine RgAll.cons (by { (with_reducible refine RgL.mk (by rfl) ?_); intro v a w' hE hd hf; have ev0 := hf.lit 9 (.pointer (some ⟨g9, 0, none⟩)) (by kernel_rfl) (by kernel_rfl); clear hd hf; intro K hK; go_simp; exact hK.out _ _ (Ext.refl _) rfl (FreshIf.no rfl) }) ?_
    refine RgAll.cons (by { (with_reducible refine RgL.mk (by rfl) ?_); intro v a w' hE hd hf; have d0 : v 0 = .pointer (some ⟨g9, 1, none⟩) := hd 0 (by kernel_rfl); have ev0 := hf.val 0 48 _ d0 (by kernel_rfl) (by kernel_rfl) (by kernel_rfl); clear d0; obtain ⟨s8, a8, n8, c8, b8, h8⟩ := (S.mono hE).at 3 (g9) (IsI 12 zb) rfl; have L0 := b8.c0; have L1 := b8.c1; obtain ⟨s9, a9, n9, c9, k9, h9⟩ := h8; injection k9 with k9; simp only [Array.mk.injEq, List.cons.injEq, Value.bool.injEq, Value.slice.injEq, and_true] at k9; obtain ⟨rfl, rfl, rfl, rfl⟩ := k9; clear hd hf; intro K hK; go_simp; exact hK.out _ _ (Ext.refl _) ⟨_, _, _, _, rfl, h9⟩ (FreshIf.no rfl) }) ?_
    refine RgAll.cons (by { (with_reducible refine RgL.mk (by rfl) ?_); intro v a w' hE hd hf; have d0 : (IsMag 12 zb) (v 1) w' := hd 1 (by kernel_rfl); obtain ⟨s9, a9, n9, c9, z0, h9⟩ := d0; have ev0 := hf.val 1 49 _ z0 (by kernel_rfl) (by kernel_rfl) (by kernel_rfl); clear z0; obtain rfl : n9 = 0 := h9.zero_iff.1 (HZ.out); clear hd hf; intro K hK; go_simp; exact hK.out _ _ (Ext.refl _) rfl (FreshIf.no rfl) }) ?_
    refine RgAll.cons (by { (with_reducible refine RgL.mk (by rfl) ?_); intro v a w' hE hd hf; have d0 : v 2 = .int .i64 0 := hd 2 (by kernel_rfl); have ev0 := hf.val 2 50 _ d0 (by kernel_rfl) (by kernel_rfl) (by kernel_rfl); clear d0; clear hd hf; intro K hK; go_simp; exact hK.out _ _ (Ext.refl _) rfl (FreshIf.no rfl) }) ?_
    exact RgAll.nil
  intro v W11 e1 hΦ _
  replace S := S.mono e1
  have v3 : v 3 = .bool true := hΦ 3 (by decide)
  simp only [layL, Act.put, List.setIfInBounds_toArray, List.set_cons_zero, List.set_cons_succ, Nat.reduceAdd]
  rw [v3]
  clear v3
  clear hΦ
  clear e1
  refine wpList_nil ?_
  go_upto_region 9 with (fail)
  refine wp_region_rgs 16 [some 52, some 53, some 54, some 55, some 56, some 57, some 58, some 59, some 60, some 61, some 62, some 63, some 64, some 65, some 66, some 6] [IsV (.bool true), IsV (.bool true), IsV (.int .i64 4), IsV (.bool true), IsV (.bool true), IsV (.bool true), IsV (.pointer (some ⟨g11, 1, none⟩)), IsMag 0 0, IsV (.int .i64 0), IsV (.pointer (some ⟨g12, 1, none⟩)), IsMag 0 0, IsV (.int .i64 0), IsV (.int .i64 0), IsV (.bool true), IsV (.bool true), IsV (.bool true)] [] (by decide) (by kernel_rfl) (by kernel_rfl) (by kernel_rfl) ?_ ?_ ?_ ?_
  · repeat' (first | exact trivial | exact IsV.stb _ | exact IsI.stb _ _ | exact IsB.stb _ | exact IsR.stb _ _ | exact IsMag.stb _ _ | exact IsPos.stb | apply IsT3.stb | apply IsT2.stb | apply And.intro)
  · exact (fun _ h => by cases h)
  · refine RgAll.cons (by { (with_reducible refine RgL.mk (by rfl) ?_); intro v a w' hE hd hf; have ev0 := hf.lit 7 (.bool true) (by kernel_rfl) (by kernel_rfl); clear hd hf; intro K hK; go_simp; exact hK.out _ _ (Ext.refl _) rfl (FreshIf.no rfl) }) ?_
    refine RgAll.cons (by { (with_reducible refine RgL.mk (by rfl) ?_); intro v a w' hE hd hf; have d0 : v 0 = .bool true := hd 0 (by kernel_rfl); have ev0 := hf.val 0 52 _ d0 (by kernel_rfl) (by kernel_rfl) (by kernel_rfl); clear d0; clear hd hf; intro K hK; go_simp; exact hK.out _ _ (Ext.refl _) rfl (FreshIf.no rfl) }) ?_
    refine RgAll.cons (by { (with_reducible refine RgL.mkG 1 53 true (by rfl) (by kernel_rfl) (by kernel_rfl) (by kernel_rfl) (by kernel_rfl) (by kernel_rfl) ?_ ?_); (focus (intro _ _ h; exact h)); intro v a w' hE hd hf; have ev0 := hf.lit 13 (.int .i64 4) (by kernel_rfl) (by kernel_rfl); clear hd hf; intro K hK; go_simp; exact hK.out _ _ (Ext.refl _) rfl (FreshIf.no rfl) }) ?_
    refine RgAll.cons (by { (with_reducible refine RgL.mkG 1 53 true (by rfl) (by kernel_rfl) (by kernel_rfl) (by kernel_rfl) (by kernel_rfl) (by kernel_rfl) ?_ ?_); (focus (intro _ _ h; exact h)); intro v a w' hE hd hf; have d0 : v 2 = .int .i64 4 := hd 2 (by kernel_rfl); have ev0 := hf.val 2 54 _ d0 (by kernel_rfl) (by kernel_rfl) (by kernel_rfl); clear d0; clear hd hf; intro K hK; go_simp; exact hK.out _ _ (Ext.refl _) rfl (FreshIf.no rfl) }) ?_
    refine RgAll.cons (by { (with_reducible refine RgL.mk (by rfl) ?_); intro v a w' hE hd hf; have d0 : v 1 = .bool true := hd 1 (by kernel_rfl); have ev0 := hf.val 1 53 _ d0 (by kernel_rfl) (by kernel_rfl) (by kernel_rfl); clear d0; have d1 : v 3 = .bool true := hd 3 (by kernel_rfl); have ev1 := hf.val 3 55 _ d1 (by kernel_rfl) (by kernel_rfl) (by kernel_rfl); clear d1; clear hd hf; intro K hK; go_simp; exact hK.out _ _ (Ext.refl _) rfl (FreshIf.no rfl) }) ?_
    refine RgAll.cons (by { (with_reducible refine RgL.mk (by rfl) ?_); intro v a w' hE hd hf; have d0 : v 4 = .bool true := hd 4 (by kernel_rfl); have ev0 := hf.val 4 56 _ d0 (by kernel_rfl) (by kernel_rfl) (by kernel_rfl); clear d0; clear hd hf; intro K hK; go_simp; exact hK.out _ _ (Ext.refl _) rfl (FreshIf.no rfl) }) ?_
    refine RgAll.cons (by { (with_reducible refine RgL.mkG 5 57 true (by rfl) (by kernel_rfl) (by kernel_rfl) (by kernel_rfl) (by kernel_rfl) (by kernel_rfl) ?_ ?_); (focus (intro _ _ h; exact h)); intro v a w' hE hd hf; have ev0 := hf.lit 11 (.pointer (some ⟨g11, 0, none⟩)) (by kernel_rfl) (by kernel_rfl); clear hd hf; intro K hK; go_simp; exact hK.out _ _ (Ext.refl _) rfl (FreshIf.no rfl) }) ?_
    refine RgAll.cons (by { (with_reducible refine RgL.mkG 5 57 true (by rfl) (by kernel_rfl) (by kernel_rfl) (by kernel_rfl) (by kernel_rfl) (by kernel_rfl) ?_ ?_); (focus (intro _ _ h; exact h)); intro v a w' hE hd hf; have d0 : v 6 = .pointer (some ⟨g11, 1, none⟩) := hd 6 (by kernel_rfl); have ev0 := hf.val 6 58 _ d0 (by kernel_rfl) (by kernel_rfl) (by kernel_rfl); clear d0; obtain ⟨s8, a8, n8, c8, b8, h8⟩ := (S.mono hE).at 1 (g11) (IsI 0 0) rfl; have L0 := b8.c0; have L1 := b8.c1; obtain ⟨s9, a9, n9, c9, k9, h9⟩ := h8; injection k9 with k9; simp only [Array.mk.injEq, List.cons.injEq, Value.bool.injEq, Value.slice.injEq, and_true] at k9; obtain ⟨rfl, rfl, rfl, rfl⟩ := k9; clear hd hf; intro K hK; go_simp; exact hK.out _ _ (Ext.refl _) ⟨_, _, _, _, rfl, h9⟩ (FreshIf.no rfl) }) ?_
    refine RgAll.cons (by { (with_reducible refine RgL.mkG 5 57 true (by rfl) (by kernel_rfl) (by kernel_rfl) (by kernel_rfl) (by kernel_rfl) (by kernel_rfl) ?_ ?_); (focus (intro _ _ h; exact h)); intro v a w' hE hd hf; have d0 : (IsMag 0 0) (v 7) w' := hd 7 (by kernel_rfl); obtain ⟨s9, a9, n9, c9, z0, h9⟩ := d0; have ev0 := hf.val 7 59 _ z0 (by kernel_rfl) (by kernel_rfl) (by kernel_rfl); clear z0; obtain rfl : n9 = 0 := h9.zero_iff.1 (rfl); clear hd hf; intro K hK; go_simp; exact hK.out _ _ (Ext.refl _) rfl (FreshIf.no rfl) }) ?_
    refine RgAll.cons (by { (with_reducible refine RgL.mkG 5 57 true (by rfl) (by kernel_rfl) (by kernel_rfl) (by kernel_rfl) (by kernel_rfl) (by kernel_rfl) ?_ ?_); (focus (intro _ _ h; exact h)); intro v a w' hE hd hf; have ev0 := hf.lit 12 (.pointer (some ⟨g12, 0, none⟩)) (by kernel_rfl) (by kernel_rfl); clear hd hf; intro K hK; go_simp; exact hK.out _ _ (Ext.refl _) rfl (FreshIf.no rfl) }) ?_
    refine RgAll.cons (by { (with_reducible refine RgL.mkG 5 57 true (by rfl) (by kernel_rfl) (by kernel_rfl) (by kernel_rfl) (by kernel_rfl) (by kernel_rfl) ?_ ?_); (focus (intro _ _ h; exact h)); intro v a w' hE hd hf; have d0 : v 9 = .pointer (some ⟨g12, 1, none⟩) := hd 9 (by kernel_rfl); have ev0 := hf.val 9 61 _ d0 (by kernel_rfl) (by kernel_rfl) (by kernel_rfl); clear d0; obtain ⟨s8, a8, n8, c8, b8, h8⟩ := (S.mono hE).at 0 (g12) (IsI 0 0) rfl; have L0 := b8.c0; have L1 := b8.c1; obtain ⟨s9, a9, n9, c9, k9, h9⟩ := h8; injection k9 with k9; simp only [Array.mk.injEq, List.cons.injEq, Value.bool.injEq, Value.slice.injEq, and_true] at k9; obtain ⟨rfl, rfl, rfl, rfl⟩ := k9; clear hd hf; intro K hK; go_simp; exact hK.out _ _ (Ext.refl _) ⟨_, _, _, _, rfl, h9⟩ (FreshIf.no rfl) }) ?_
    refine RgAll.cons (by { (with_reducible refine RgL.mkG 5 57 true (by rfl) (by kernel_rfl) (by kernel_rfl) (by kernel_rfl) (by kernel_rfl) (by kernel_rfl) ?_ ?_); (focus (intro _ _ h; exact h)); intro v a w' hE hd hf; have d0 : (IsMag 0 0) (v 10) w' := hd 10 (by kernel_rfl); obtain ⟨s9, a9, n9, c9, z0, h9⟩ := d0; have ev0 := hf.val 10 62 _ z0 (by kernel_rfl) (by kernel_rfl) (by kernel_rfl); clear z0; obtain rfl : n9 = 0 := h9.zero_iff.1 (rfl); clear hd hf; intro K hK; go_simp; exact hK.out _ _ (Ext.refl _) rfl (FreshIf.no rfl) }) ?_
    refine RgAll.cons (by { (with_reducible refine RgL.mkG 5 57 true (by rfl) (by kernel_rfl) (by kernel_rfl) (by kernel_rfl) (by kernel_rfl) (by kernel_rfl) ?_ ?_); (focus (intro _ _ h; exact h)); intro v a w' hE hd hf; have d0 : v 8 = .int .i64 0 := hd 8 (by kernel_rfl); have ev0 := hf.val 8 60 _ d0 (by kernel_rfl) (by kernel_rfl) (by kernel_rfl); clear d0; have d1 : v 11 = .int .i64 0 := hd 11 (by kernel_rfl); have ev1 := hf.val 11 63 _ d1 (by kernel_rfl) (by kernel_rfl) (by kernel_rfl); clear d1; clear hd hf; intro K hK; go_simp; exact hK.out _ _ (Ext.refl _) rfl (FreshIf.no rfl) }) ?_
    refine RgAll.cons (by { (with_reducible refine RgL.mkG 5 57 true (by rfl) (by kernel_rfl) (by kernel_rfl) (by kernel_rfl) (by kernel_rfl) (by kernel_rfl) ?_ ?_); (focus (intro _ _ h; exact h)); intro v a w' hE hd hf; have d0 : v 12 = .int .i64 0 := hd 12 (by kernel_rfl); have ev0 := hf.val 12 64 _ d0 (by kernel_rfl) (by kernel_rfl) (by kernel_rfl); clear d0; clear hd hf; intro K hK; go_simp; exact hK.out _ _ (Ext.refl _) rfl (FreshIf.no rfl) }) ?_
    refine RgAll.cons (by { (with_reducible refine RgL.mk (by rfl) ?_); intro v a w' hE hd hf; have d0 : v 5 = .bool true := hd 5 (by kernel_rfl); have ev0 := hf.val 5 57 _ d0 (by kernel_rfl) (by kernel_rfl) (by kernel_rfl); clear d0; have d1 : v 13 = .bool true := hd 13 (by kernel_rfl); have ev1 := hf.val 13 65 _ d1 (by kernel_rfl) (by kernel_rfl) (by kernel_rfl); clear d1; clear hd hf; intro K hK; go_simp; exact hK.out _ _ (Ext.refl _) rfl (FreshIf.no rfl) }) ?_
    refine RgAll.cons (by { (with_reducible refine RgL.mk (by rfl) ?_); intro v a w' hE hd hf; have d0 : v 14 = .bool true := hd 14 (by kernel_rfl); have ev0 := hf.val 14 66 _ d0 (by kernel_rfl) (by kernel_rfl) (by kernel_rfl); clear d0; clear hd hf; intro K hK; go_simp; exact hK.out _ _ (Ext.refl _) rfl (FreshIf.no rfl) }) ?_
    exact RgAll.nil
  intro v W12 e1 hΦ _
  replace S := S.mono e1
  have v15 : v 15 = .bool true := hΦ 15 (by decide)
  simp only [layL, Act.put, List.setIfInBounds_toArray, List.set_cons_zero, List.set_cons_succ, Nat.reduceAdd]
  rw [v15]
  clear v15
  clear hΦ
  clear e1
  refine wpList_nil ?_
  go_wp2_with fail
  exact bodyPost_ret (v := .bool true) (by simp [results, Tryd.results3, go_sem]) rfl (⟨_, rfl, S.ext, rfl⟩)

set_option maxRecDepth 100000 in
set_option maxHeartbeats 8000000 in
theorem Divides_1 (w : World) (s1 s2 s3 : Bool) (a1 a2 a3 : Option Addr) (n1 n2 n3 c1 c2 c3 : Nat) (x1 x2 x3 : List Nat) (h1 : Wd w a1 n1 c1 x1) (h2 : Wd w a2 n2 c2 x2) (h3 : Wd w a3 n3 c3 x3) (ht : Tab w) (za zb zc : Int) (ha : rawZ s1 x1 12 = za) (hb : rawZ s2 x2 12 = zb) (hc : rawZ s3 x3 12 = zc) (hz : zb ≠ 0) :
    Calls Tryd.prog 3 #[.agg #[.bool s1, .slice a1 n1 c1], .agg #[.bool s2, .slice a2 n2 c2], .agg #[.bool s3, .slice a3 n3 c3]] w (Ret w (IsV (.bool true))) := by
  have Ha := hid ha
  have Hb := hid hb
  have Hc := hid hc
  have HZ := hid hz
  have h0 := Int.emod_nonneg za hz
  have hlt := Int.emod_lt za hz
  have H1 := hid (show za / zb * zb + za % zb = za by rw [Int.mul_comm]; exact Int.mul_ediv_add_emod za zb)
  obtain ⟨sg, hsg⟩ : ∃ s, s = (za % zb).sign := ⟨_, rfl⟩
  have H2 := hid hsg.symm
  have H3 := hid (show decide (0 ≤ sg) = true by rw [hsg]; simpa using h0)
  have H4 := hid (show cmpI (za % zb) ((zb.natAbs : Nat) : Int) = -1 from cmpI_lt (by omega))
  have H5 := hid (show (za + zc) % zb = (za % zb + zc % zb) % zb from Int.add_emod za zc zb)
  have H6 := hid (show (za * zc) % zb = (za % zb * (zc % zb)) % zb from Int.mul_emod za zc zb)
  have H7 := hid (show za * zb / zb = za from Int.mul_ediv_cancel za hz)
  have H8 := hid (show za * zb % zb = 0 from Int.mul_emod_left za zb)
  clear ha hb hc hz h0 hlt hsg
  obtain ⟨W, hW, S⟩ : ∃ W, W = ((w.alloc (.cells #[.bool s1, .slice a1 n1 c1] 24)).alloc (.cells #[.bool s2, .slice a2 n2 c2] 24)).alloc (.cells #[.bool s3, .slice a3 n3 c3] 24) ∧ St w W [(w.heap.size + 1 + 1, IsR s3 x3), (w.heap.size + 1, IsR s2 x2), (w.heap.size, IsR s1 x1)] := ⟨_, rfl, ((((St.start w).new' (w.heap.size) (by simp) s1 a1 n1 c1 24 (IsR s1 x1) (IsR.gstb _ _) ⟨_, _, _, rfl, h1⟩).new' (w.heap.size + 1) (by simp) s2 a2 n2 c2 24 (IsR s2 x2) (IsR.gstb _ _) ⟨_, _, _, rfl, h2.ext ((Ext.refl _).alloc _)⟩).new' (w.heap.size + 1 + 1) (by simp) s3 a3 n3 c3 24 (IsR s3 x3) (IsR.gstb _ _) ⟨_, _, _, rfl, h3.ext (((Ext.refl _).alloc _).alloc _)⟩)⟩
  clear h1 h2 h3
  go_enter Tryd.func3, Tryd.ntmps3
  go_upto_region 1 with (fail)
  rw [← hW]
  clear hW
  refine wp_region_rgs 2 [some 32, some 7] [IsV (.bool true), IsV (.bool true)] [] (by decide) (by kernel_rfl) (by kernel_rfl) (by kernel_rfl) ?_ ?_ ?_ ?_
  · repeat' (first | exact trivial | exact IsV.stb _ | exact IsI.stb _ _ | exact IsB.stb _ | exact IsR.stb _ _ | exact IsMag.stb _ _ | exact IsPos.stb | apply IsT3.stb | apply IsT2.stb | apply And.intro)
  · exact (fun _ h => by cases h)
  · refine RgAll.cons (by { (with_reducible refine RgL.mk (by rfl) ?_); intro v a w' hE hd hf; skip; clear hd hf; intro K hK; go_simp; go_at_call 9; go_split_ands; (with_reducible refine Calls.mono (examples_f _ (ht.ext (S.ext.trans hE))) ?_); rintro e w2 ⟨x, rfl, e2, hx⟩; exact hK.out _ _ e2 hx (FreshIf.no rfl) }) ?_
    refine RgAll.cons (by { (with_reducible refine RgL.mk (by rfl) ?_); intro v a w' hE hd hf; have d0 : v 0 = .bool true := hd 0 (by kernel_rfl); have ev0 := hf.val 0 32 _ d0 (by kernel_rfl) (by kernel_rfl) (by kernel_rfl); clear d0; clear hd hf; intro K hK; go_simp; exact hK.out _ _ (Ext.refl _) rfl (FreshIf.no rfl) }) ?_
    exact RgAll.nil
  intro v W1 e1 hΦ _
  replace S := S.mono e1
  have v1 : v 1 = .bool true := hΦ 1 (by decide)
  simp only [layL, Act.put, List.setIfInBounds_toArray, List.set_cons_zero, List.set_cons_succ, Nat.reduceAdd]
  rw [v1]
  clear v1
  clear hΦ
  clear e1
  refine wpList_nil ?_
  go_upto_region 4 with (fail)
  have hl := hid S.lt; have hw := S.ext.size
  refine wp_region_rgs 3 [some 35, some 36, some 8] [IsR s1 x1, IsI 12 za, IsB W1] [2] (by decide) (by kernel_rfl) (by kernel_rfl) (by kernel_rfl) ?_ ?_ ?_ ?_
  · repeat' (first | exact trivial | exact IsV.stb _ | exact IsI.stb _ _ | exact IsB.stb _ | exact IsR.stb _ _ | exact IsMag.stb _ _ | exact IsPos.stb | apply IsT3.stb | apply IsT2.stb | apply And.intro)
  · intro i hi; simp only [List.mem_cons, List.not_mem_nil, or_false] at hi; subst hi; exact IsB.box _
  · refine RgAll.cons (by { (with_reducible refine RgL.mk (by rfl) ?_); intro v a w' hE hd hf; have ev0 := hf.lit 3 (.pointer (some ⟨w.heap.size, 0, none⟩)) (by kernel_rfl) (by kernel_rfl); obtain ⟨s8, a8, n8, c8, b8, h8⟩ := (S.mono hE).at 2 (w.heap.size) (IsR s1 x1) rfl; have L0 := b8.c0; have L1 := b8.c1; clear hd hf; intro K hK; go_simp; exact hK.out _ _ (Ext.refl _) h8 (FreshIf.no rfl) }) ?_
    refine RgAll.cons (by { (with_reducible refine RgL.mk (by rfl) ?_); intro v a w' hE hd hf; have d0 : (IsR s1 x1) (v 0) w' := hd 0 (by kernel_rfl); have ev0 := hf.val 0 35 _ rfl (by kernel_rfl) (by kernel_rfl) (by kernel_rfl); clear hd hf; intro K hK; go_simp; go_at_call 10; go_split_ands; (with_reducible refine Calls.mono (Calls.mono (Made_f d0 (by decide)) fun _ _ h => h.eqz Ha.out) ?_); rintro e w2 ⟨x, rfl, e2, hx⟩; exact hK.out _ _ e2 hx (FreshIf.no rfl) }) ?_
    refine RgAll.cons (by { (with_reducible refine RgL.mk (by rfl) ?_); intro v a w' hE hd hf; skip; clear hd hf; intro K hK; go_simp; refine hK.out _ _ ((Ext.refl _).alloc _) ⟨_, rfl, hE.size, Bx.new _ _ _ _ _⟩ FreshIf.yes }) ?_
    exact RgAll.nil
  intro v W2 e1 hΦ _
  replace S := S.mono e1
  obtain ⟨s36, a36, n36, c36, v1, h36⟩ := (hΦ 1 (by decide) : IsI 12 za (v 1) W2)
  obtain ⟨g8, v2, q2, b1⟩ := (hΦ 2 (by decide) : IsB W1 (v 2) W2)
  replace S := S.addN (Apart.old hl.out q2) (Nat.le_trans hw q2) b1
  clear b1
  simp only [layL, Act.put, List.setIfInBounds_toArray, List.set_cons_zero, List.set_cons_succ, Nat.reduceAdd]
  rw [v1, v2]
  clear v1 v2
  clear hΦ
  clear hl hw
  clear e1
  obtain ⟨s8, a8, n8, c8, b8, _⟩ := S.at 0 (g8) (IsI 0 0) rfl; have F1 := b8.c0; have F2 := b8.c1; have F3 := b8.f0; have F4 := b8.f1
  refine wpList_step fun K hK => ?_; go_simp; refine hK _ _ ?_; clear hK K
  clear F1 F2 F3 F4 b8
  obtain ⟨W3, hW, S2, G2, _⟩ := S.put 0 (g8) (IsI 0 0) (IsI 12 za) rfl s36 a36 n36 c36 (IsI.gstb _ _) ⟨_, _, _, _, rfl, h36⟩
  rw [← hW]; clear hW S
  have S : St w W3 [(g8, IsI 12 za), (w.heap.size + 1 + 1, IsR s3 x3), (w.heap.size + 1, IsR s2 x2), (w.heap.size, IsR s1 x1)] := S2; clear S2 G2
  clear h36
  refine wpList_nil ?_
  go_upto_region 5 with (fail)
  have hl := hid S.lt; have hw := S.ext.size
  refine wp_region_rgs 3 [some 37, some 38, some 9] [IsR s2 x2, IsI 12 zb, IsB W3] [2] (by decide) (by kernel_rfl) (by kernel_rfl) (by kernel_rfl) ?_ ?_ ?_ ?_
  · repeat' (first | exact trivial | exact IsV.stb _ | exact IsI.stb _ _ | exact IsB.stb _ | exact IsR.stb _ _ | exact IsMag.stb _ _ | exact IsPos.stb | apply IsT3.stb | apply IsT2.stb | apply And.intro)
  · intro i hi; simp only [List.mem_cons, List.not_mem_nil, or_false] at hi; subst hi; exact IsB.box _
  · refine RgAll.cons (by { (with_reducible refine RgL.mk (by rfl) ?_); intro v a w' hE hd hf; have ev0 := hf.lit 4 (.pointer (some ⟨w.heap.size + 1, 0, none⟩)) (by kernel_rfl) (by kernel_rfl); obtain ⟨s8, a8, n8, c8, b8, h8⟩ := (S.mono hE).at 2 (w.heap.size + 1) (IsR s2 x2) rfl; have L0 := b8.c0; have L1 := b8.c1; clear hd hf; intro K hK; go_simp; exact hK.out _ _ (Ext.refl _) h8 (FreshIf.no rfl) }) ?_
    refine RgAll.cons (by { (with_reducible refine RgL.mk (by rfl) ?_); intro v a w' hE hd hf; have d0 : (IsR s2 x2) (v 0) w' := hd 0 (by kernel_rfl); have ev0 := hf.val 0 37 _ rfl (by kernel_rfl) (by kernel_rfl) (by kernel_rfl); clear hd hf; intro K hK; go_simp; go_at_call 10; go_split_ands; (with_reducible refine Calls.mono (Calls.mono (Made_f d0 (by decide)) fun _ _ h => h.eqz Hb.out) ?_); rintro e w2 ⟨x, rfl, e2, hx⟩; exact hK.out _ _ e2 hx (FreshIf.no rfl) }) ?_
    refine RgAll.cons (by { (with_reducible refine RgL.mk (by rfl) ?_); intro v a w' hE hd hf; skip; clear hd hf; intro K hK; go_simp; refine hK.out _ _ ((Ext.refl _).alloc _) ⟨_, rfl, hE.size, Bx.new _ _ _ _ _⟩ FreshIf.yes }) ?_
    exact RgAll.nil
  intro v W4 e1 hΦ _
  replace S := S.mono e1
  obtain ⟨s38, a38, n38, c38, v1, h38⟩ := (hΦ 1 (by decide) : IsI 12 zb (v 1) W4)
  obtain ⟨g9, v2, q4, b3⟩ := (hΦ 2 (by decide) : IsB W3 (v 2) W4)
  replace S := S.addN (Apart.old hl.out q4) (Nat.le_trans hw q4) b3
  clear b3
  simp only [layL, Act.put, List.setIfInBounds_toArray, List.set_cons_zero, List.set_cons_succ, Nat.reduceAdd]
  rw [v1, v2]
  clear v1 v2
  clear hΦ
  clear hl hw
  clear e1
  obtain ⟨s8, a8, n8, c8, b8, _⟩ := S.at 0 (g9) (IsI 0 0) rfl; have F1 := b8.c0; have F2 := b8.c1; have F3 := b8.f0; have F4 := b8.f1
  refine wpList_step fun K hK => ?_; go_simp; refine hK _ _ ?_; clear hK K
  clear F1 F2 F3 F4 b8
  obtain ⟨W5, hW, S2, G2, _⟩ := S.put 0 (g9) (IsI 0 0) (IsI 12 zb) rfl s38 a38 n38 c38 (IsI.gstb _ _) ⟨_, _, _, _, rfl, h38⟩
  rw [← hW]; clear hW S
  have S : St w W5 [(g9, IsI 12 zb), (g8, IsI 12 za), (w.heap.size + 1 + 1, IsR s3 x3), (w.heap.size + 1, IsR s2 x2), (w.heap.size, IsR s1 x1)] := S2; clear S2 G2
  clear h38
  refine wpList_nil ?_
  go_upto_region 6 with (fail)
  have hl := hid S.lt; have hw := S.ext.size
  refine wp_region_rgs 3 [some 39, some 40, some 10] [IsR s3 x3, IsI 12 zc, IsB W5] [2] (by decide) (by kernel_rfl) (by kernel_rfl) (by kernel_rfl) ?_ ?_ ?_ ?_
  · repeat' (first | exact trivial | exact IsV.stb _ | exact IsI.stb _ _ | exact IsB.stb _ | exact IsR.stb _ _ | exact IsMag.stb _ _ | exact IsPos.stb | apply IsT3.stb | apply IsT2.stb | apply And.intro)
  · intro i hi; simp only [List.mem_cons, List.not_mem_nil, or_false] at hi; subst hi; exact IsB.box _
  · refine RgAll.cons (by { (with_reducible refine RgL.mk (by rfl) ?_); intro v a w' hE hd hf; have ev0 := hf.lit 5 (.pointer (some ⟨w.heap.size + 1 + 1, 0, none⟩)) (by kernel_rfl) (by kernel_rfl); obtain ⟨s8, a8, n8, c8, b8, h8⟩ := (S.mono hE).at 2 (w.heap.size + 1 + 1) (IsR s3 x3) rfl; have L0 := b8.c0; have L1 := b8.c1; clear hd hf; intro K hK; go_simp; exact hK.out _ _ (Ext.refl _) h8 (FreshIf.no rfl) }) ?_
    refine RgAll.cons (by { (with_reducible refine RgL.mk (by rfl) ?_); intro v a w' hE hd hf; have d0 : (IsR s3 x3) (v 0) w' := hd 0 (by kernel_rfl); have ev0 := hf.val 0 39 _ rfl (by kernel_rfl) (by kernel_rfl) (by kernel_rfl); clear hd hf; intro K hK; go_simp; go_at_call 10; go_split_ands; (with_reducible refine Calls.mono (Calls.mono (Made_f d0 (by decide)) fun _ _ h => h.eqz Hc.out) ?_); rintro e w2 ⟨x, rfl, e2, hx⟩; exact hK.out _ _ e2 hx (FreshIf.no rfl) }) ?_
    refine RgAll.cons (by { (with_reducible refine RgL.mk (by rfl) ?_); intro v a w' hE hd hf; skip; clear hd hf; intro K hK; go_simp; refine hK.out _ _ ((Ext.refl _).alloc _) ⟨_, rfl, hE.size, Bx.new _ _ _ _ _⟩ FreshIf.yes }) ?_
    exact RgAll.nil
  intro v W6 e1 hΦ _
  replace S := S.mono e1
  obtain ⟨s40, a40, n40, c40, v1, h40⟩ := (hΦ 1 (by decide) : IsI 12 zc (v 1) W6)
  obtain ⟨g10, v2, q6, b5⟩ := (hΦ 2 (by decide) : IsB W5 (v 2) W6)
  replace S := S.addN (Apart.old hl.out q6) (Nat.le_trans hw q6) b5
  clear b5
  simp only [layL, Act.put, List.setIfInBounds_toArray, List.set_cons_zero, List.set_cons_succ, Nat.reduceAdd]
  rw [v1, v2]
  clear v1 v2
  clear hΦ
  clear hl hw
  clear e1
  obtain ⟨s8, a8, n8, c8, b8, _⟩ := S.at 0 (g10) (IsI 0 0) rfl; have F1 := b8.c0; have F2 := b8.c1; have F3 := b8.f0; have F4 := b8.f1
  refine wpList_step fun K hK => ?_; go_simp; refine hK _ _ ?_; clear hK K
  clear F1 F2 F3 F4 b8
  obtain ⟨W7, hW, S2, G2, _⟩ := S.put 0 (g10) (IsI 0 0) (IsI 12 zc) rfl s40 a40 n40 c40 (IsI.gstb _ _) ⟨_, _, _, _, rfl, h40⟩
  rw [← hW]; clear hW S
  have S : St w W7 [(g10, IsI 12 zc), (g9, IsI 12 zb), (g8, IsI 12 za), (w.heap.size + 1 + 1, IsR s3 x3), (w.heap.size + 1, IsR s2 x2), (w.heap.size, IsR s1 x1)] := S2; clear S2 G2
  clear h40
  refine wpList_nil ?_
  go_upto_region 7 with (fail)
  have hl := hid S.lt; have hw := S.ext.size
  refine wp_region_rgs 9 [some 42, some 43, some 44, some 41, some 45, some 46, some 47, some 11, some 12] [IsI 12 za, IsI 12 zb, IsT3 (IsI 12 (za / zb)) (IsI 12 (za % zb)) (IsV (.int .i64 0)), IsT3 (IsI 12 (za / zb)) (IsI 12 (za % zb)) (IsV (.int .i64 0)), IsI 12 (za / zb), IsI 12 (za % zb), IsV (.int .i64 0), IsB W7, IsB W7] [7, 8] (by decide) (by kernel_rfl) (by kernel_rfl) (by kernel_rfl) ?_ ?_ ?_ ?_
  · repeat' (first | exact trivial | exact IsV.stb _ | exact IsI.stb _ _ | exact IsB.stb _ | exact IsR.stb _ _ | exact IsMag.stb _ _ | exact IsPos.stb | apply IsT3.stb | apply IsT2.stb | apply And.intro)
  · intro i hi; simp only [List.mem_cons, List.not_mem_nil, or_false] at hi; rcases hi with rfl | rfl <;> exact IsB.box _
  · refine RgAll.cons (by { (with_reducible refine RgL.mk (by rfl) ?_); intro v a w' hE hd hf; have ev0 := hf.lit 8 (.pointer (some ⟨g8, 0, none⟩)) (by kernel_rfl) (by kernel_rfl); obtain ⟨s8, a8, n8, c8, b8, h8⟩ := (S.mono hE).at 2 (g8) (IsI 12 za) rfl; have L0 := b8.c0; have L1 := b8.c1; clear hd hf; intro K hK; go_simp; exact hK.out _ _ (Ext.refl _) h8 (FreshIf.no rfl) }) ?_
    refine RgAll.cons (by { (with_reducible refine RgL.mk (by rfl) ?_); intro v a w' hE hd hf; have ev0 := hf.lit 9 (.pointer (some ⟨g9, 0, none⟩)) (by kernel_rfl) (by kernel_rfl); obtain ⟨s8, a8, n8, c8, b8, h8⟩ := (S.mono hE).at 1 (g9) (IsI 12 zb) rfl; have L0 := b8.c0; have L1 := b8.c1; clear hd hf; intro K hK; go_simp; exact hK.out _ _ (Ext.refl _) h8 (FreshIf.no rfl) }) ?_
    refine RgAll.cons (by { (with_reducible refine RgL.mk (by rfl) ?_); intro v a w' hE hd hf; have d0 : (IsI 12 za) (v 0) w' := hd 0 (by kernel_rfl); have ev0 := hf.val 0 42 _ rfl (by kernel_rfl) (by kernel_rfl) (by kernel_rfl); have d1 : (IsI 12 zb) (v 1) w' := hd 1 (by kernel_rfl); have ev1 := hf.val 1 43 _ rfl (by kernel_rfl) (by kernel_rfl) (by kernel_rfl); clear hd hf; intro K hK; go_simp; go_at_call 11; go_split_ands; (with_reducible refine Calls.mono (DivMod_f d0 d1 (by decide) (by decide) (HZ.out)) ?_); rintro e w2 ⟨x, rfl, e2, hx⟩; exact hK.out _ _ e2 hx (FreshIf.no rfl) }) ?_
    refine RgAll.cons (by { (with_reducible refine RgL.mk (by rfl) ?_); intro v a w' hE hd hf; have d0 : (IsT3 (IsI 12 (za / zb)) (IsI 12 (za % zb)) (IsV (.int .i64 0))) (v 2) w' := hd 2 (by kernel_rfl); have ev0 := hf.val 2 44 _ rfl (by kernel_rfl) (by kernel_rfl) (by kernel_rfl); clear hd hf; intro K hK; go_simp; exact hK.out _ _ (Ext.refl _) d0 (FreshIf.no rfl) }) ?_
    refine RgAll.cons (by { (with_reducible refine RgL.mk (by rfl) ?_); intro v a w' hE hd hf; have d0 : (IsT3 (IsI 12 (za / zb)) (IsI 12 (za % zb)) (IsV (.int .i64 0))) (v 3) w' := hd 3 (by kernel_rfl); obtain ⟨x0, x1, x2, z0, y0, y1, y2⟩ := d0; have ev0 := hf.val 3 41 _ z0 (by kernel_rfl) (by kernel_rfl) (by kernel_rfl); clear z0; clear hd hf; intro K hK; go_simp; exact hK.out _ _ (Ext.refl _) y0 (FreshIf.no rfl) }) ?_
    refine RgAll.cons (by { (with_reducible refine RgL.mk (by rfl) ?_); intro v a w' hE hd hf; have d0 : (IsT3 (IsI 12 (za / zb)) (IsI 12 (za % zb)) (IsV (.int .i64 0))) (v 3) w' := hd 3 (by kernel_rfl); obtain ⟨x0, x1, x2, z0, y0, y1, y2⟩ := d0; have ev0 := hf.val 3 41 _ z0 (by kernel_rfl) (by kernel_rfl) (by kernel_rfl); clear z0; clear hd hf; intro K hK; go_simp; exact hK.out _ _ (Ext.refl _) y1 (FreshIf.no rfl) }) ?_
    refine RgAll.cons (by { (with_reducible refine RgL.mk (by rfl) ?_); intro v a w' hE hd hf; have d0 : (IsT3 (IsI 12 (za / zb)) (IsI 12 (za % zb)) (IsV (.int .i64 0))) (v 3) w' := hd 3 (by kernel_rfl); obtain ⟨x0, x1, x2, z0, y0, y1, y2⟩ := d0; have ev0 := hf.val 3 41 _ z0 (by kernel_rfl) (by kernel_rfl) (by kernel_rfl); clear z0; clear hd hf; intro K hK; go_simp; exact hK.out _ _ (Ext.refl _) y2 (FreshIf.no rfl) }) ?_
    refine RgAll.cons (by { (with_reducible refine RgL.mk (by rfl) ?_); intro v a w' hE hd hf; skip; clear hd hf; intro K hK; go_simp; refine hK.out _ _ ((Ext.refl _).alloc _) ⟨_, rfl, hE.size, Bx.new _ _ _ _ _⟩ FreshIf.yes }) ?_
    refine RgAll.cons (by { (with_reducible refine RgL.mk (by rfl) ?_); intro v a w' hE hd hf; skip; clear hd hf; intro K hK; go_simp; refine hK.out _ _ ((Ext.refl _).alloc _) ⟨_, rfl, hE.size, Bx.new _ _ _ _ _⟩ FreshIf.yes }) ?_
    exact RgAll.nil
  intro v W8 e1 hΦ hne
  replace S := S.mono e1
  obtain ⟨s45, a45, n45, c45, v4, h45⟩ := (hΦ 4 (by decide) : IsI 12 (za / zb) (v 4) W8)
  obtain ⟨s46, a46, n46, c46, v5, h46⟩ := (hΦ 5 (by decide) : IsI 12 (za % zb) (v 5) W8)
  have v6 : v 6 = .int .i64 0 := hΦ 6 (by decide)
  obtain ⟨g11, v7, q8, b7⟩ := (hΦ 7 (by decide) : IsB W7 (v 7) W8)
  replace S := S.addN (Apart.old hl.out q8) (Nat.le_trans hw q8) b7
  clear b7
  obtain ⟨g12, v8, q10, b9⟩ := (hΦ 8 (by decide) : IsB W7 (v 8) W8)
  replace S := S.addN (Apart.cons (fun h => hne 7 8 (by decide) (by decide) (by decide) (by decide) (by decide) (by rw [v7, v8, h])) (Apart.old hl.out q10)) (Nat.le_trans hw q10) b9
  clear b9
  clear hne
  simp only [layL, Act.put, List.setIfInBounds_toArray, List.set_cons_zero, List.set_cons_succ, Nat.reduceAdd]
  rw [v4, v5, v6, v7, v8]
  clear v4 v5 v6 v7 v8
  clear hΦ
  clear hl hw
  clear e1
  obtain ⟨s8, a8, n8, c8, b8, _⟩ := S.at 1 (g11) (IsI 0 0) rfl; have F1 := b8.c0; have F2 := b8.c1; have F3 := b8.f0; have F4 := b8.f1
  refine wpList_step fun K hK => ?_; go_simp; refine hK _ _ ?_; clear hK K
  clear F1 F2 F3 F4 b8
  obtain ⟨W9, hW, S2, G2, _⟩ := S.put 1 (g11) (IsI 0 0) (IsI 12 (za / zb)) rfl s45 a45 n45 c45 (IsI.gstb _ _) ⟨_, _, _, _, rfl, h45⟩
  rw [← hW]; clear hW S
  replace h46 := h46.gr G2
  have S : St w W9 [(g12, IsI 0 0), (g11, IsI 12 (za / zb)), (g10, IsI 12 zc), (g9, IsI 12 zb), (g8, IsI 12 za), (w.heap.size + 1 + 1, IsR s3 x3), (w.heap.size + 1, IsR s2 x2), (w.heap.size, IsR s1 x1)] := S2; clear S2 G2
  clear h45
  obtain ⟨s8, a8, n8, c8, b8, _⟩ := S.at 0 (g12) (IsI 0 0) rfl; have F1 := b8.c0; have F2 := b8.c1; have F3 := b8.f0; have F4 := b8.f1
  refine wpList_step fun K hK => ?_; go_simp; refine hK _ _ ?_; clear hK K
  clear F1 F2 F3 F4 b8
  obtain ⟨W10, hW, S2, G2, _⟩ := S.put 0 (g12) (IsI 0 0) (IsI 12 (za % zb)) rfl s46 a46 n46 c46 (IsI.gstb _ _) ⟨_, _, _, _, rfl, h46⟩
  rw [← hW]; clear hW S
  have S : St w W10 [(g12, IsI 12 (za % zb)), (g11, IsI 12 (za / zb)), (g10, IsI 12 zc), (g9, IsI 12 zb), (g8, IsI 12 za), (w.heap.size + 1 + 1, IsR s3 x3), (w.heap.size + 1, IsR s2 x2), (w.heap.size, IsR s1 x1)] := S2; clear S2 G2
  clear h46
  refine wpList_step fun K hK => ?_; go_simp; refine hK _ _ ?_; clear hK K
  refine wpList_nil ?_
  go_upto_region 8 with (fail)
  refine wp_region_rgs 4 [some 48, some 49, some 50, some 51] [IsV (.pointer (some ⟨g9, 1, none⟩)), IsMag 12 zb, IsPos, IsV (.bool false)] [] (by decide) (by kernel_rfl) (by kernel_rfl) (by kernel_rfl) ?_ ?_ ?_ ?_
  · repeat' (first | exact trivial | exact IsV.stb _ | exact IsI.stb _ _ | exact IsB.stb _ | exact IsR.stb _ _ | exact IsMag.stb _ _ | exact IsPos.stb | apply IsT3.stb | apply IsT2.stb | apply And.intro)
  · exact (fun _ h => by cases h)
  · refine RgAll.cons (by { (with_reducible refine RgL.mk (by rfl) ?_); intro v a w' hE hd hf; have ev0 := hf.lit 9 (.pointer (some ⟨g9, 0, none⟩)) (by kernel_rfl) (by kernel_rfl); clear hd hf; intro K hK; go_simp; exact hK.out _ _ (Ext.refl _) rfl (FreshIf.no rfl) }) ?_
    refine RgAll.cons (by { (with_reducible refine RgL.mk (by rfl) ?_); intro v a w' hE hd hf; have d0 : v 0 = .pointer (some ⟨g9, 1, none⟩) := hd 0 (by kernel_rfl); have ev0 := hf.val 0 48 _ d0 (by kernel_rfl) (by kernel_rfl) (by kernel_rfl); clear d0; obtain ⟨s8, a8, n8, c8, b8, h8⟩ := (S.mono hE).at 3 (g9) (IsI 12 zb) rfl; have L0 := b8.c0; have L1 := b8.c1; obtain ⟨s9, a9, n9, c9, k9, h9⟩ := h8; injection k9 with k9; simp only [Array.mk.injEq, List.cons.injEq, Value.bool.injEq, Value.slice.injEq, and_true] at k9; obtain ⟨rfl, rfl, rfl, rfl⟩ := k9; clear hd hf; intro K hK; go_simp; exact hK.out _ _ (Ext.refl _) ⟨_, _, _, _, rfl, h9⟩ (FreshIf.no rfl) }) ?_
    refine RgAll.cons (by { (with_reducible refine RgL.mk (by rfl) ?_); intro v a w' hE hd hf; have d0 : (IsMag 12 zb) (v 1) w' := hd 1 (by kernel_rfl); obtain ⟨s9, a9, n9, c9, z0, h9⟩ := d0; have ev0 := hf.val 1 49 _ z0 (by kernel_rfl) (by kernel_rfl) (by kernel_rfl); clear z0; clear hd hf; intro K hK; go_simp; exact hK.out _ _ (Ext.refl _) ⟨n9, rfl, Nat.pos_of_ne_zero (fun h0 => (HZ.out) (h9.zero_iff.2 h0)), h9.len⟩ (FreshIf.no rfl) }) ?_
    refine RgAll.cons (by { (with_reducible refine RgL.mk (by rfl) ?_); intro v a w' hE hd hf; have d0 : IsPos (v 2) w' := hd 2 (by kernel_rfl); obtain ⟨n9, z0, p9, q9⟩ := d0; have ev0 := hf.val 2 50 _ z0 (by kernel_rfl) (by kernel_rfl) (by kernel_rfl); clear z0; have hb9 : ((n9 : Int) == 0) = false := (by rw [beq_eq_false_iff_ne]; omega); have hb8 : decide ((0 : Int) < (n9 : Int)) = true := (by simp; omega); have hb7 : decide (0 < n9) = true := (by simp; omega); have hb6 : (n9 == 0) = false := (by rw [beq_eq_false_iff_ne]; omega); clear hd hf; intro K hK; go_simp; exact hK.out _ _ (Ext.refl _) rfl (FreshIf.no rfl) }) ?_
    exact RgAll.nil
  intro v W11 e1 hΦ _
  replace S := S.mono e1
  have v3 : v 3 = .bool false := hΦ 3 (by decide)
  simp only [layL, Act.put, List.setIfInBounds_toArray, List.set_cons_zero, List.set_cons_succ, Nat.reduceAdd]
  rw [v3]
  clear v3
  clear hΦ
  clear e1
  refine wpList_nil ?_
  go_upto_region 10 with (fail)
  have hl := hid S.lt; have hw := S.ext.size
  refine wp_region_rgs 9 [some 68, some 69, some 70, some 67, some 71, some 72, some 73, some 14, some 15] [IsI 12 zc, IsI 12 zb, IsT3 (IsI 12 (zc / zb)) (IsI 12 (zc % zb)) (IsV (.int .i64 0)), IsT3 (IsI 12 (zc / zb)) (IsI 12 (zc % zb)) (IsV (.int .i64 0)), IsI 12 (zc / zb), IsI 12 (zc % zb), IsV (.int .i64 0), IsB W11, IsB W11] [7, 8] (by decide) (by kernel_rfl) (by kernel_rfl) (by kernel_rfl) ?_ ?_ ?_ ?_
  · repeat' (first | exact trivial | exact IsV.stb _ | exact IsI.stb _ _ | exact IsB.stb _ | exact IsR.stb _ _ | exact IsMag.stb _ _ | exact IsPos.stb | apply IsT3.stb | apply IsT2.stb | apply And.intro)
  · intro i hi; simp only [List.mem_cons, List.not_mem_nil, or_false] at hi; rcases hi with rfl | rfl <;> exact IsB.box _
  · refine RgAll.cons (by { (with_reducible refine RgL.mk (by rfl) ?_); intro v a w' hE hd hf; have ev0 := hf.lit 10 (.pointer (some ⟨g10, 0, none⟩)) (by kernel_rfl) (by kernel_rfl); obtain ⟨s8, a8, n8, c8, b8, h8⟩ := (S.mono hE).at 2 (g10) (IsI 12 zc) rfl; have L0 := b8.c0; have L1 := b8.c1; clear hd hf; intro K hK; go_simp; exact hK.out _ _ (Ext.refl _) h8 (FreshIf.no rfl) }) ?_
    refine RgAll.cons (by { (with_reducible refine RgL.mk (by rfl) ?_); intro v a w' hE hd hf; have ev0 := hf.lit 9 (.pointer (some ⟨g9, 0, none⟩)) (by kernel_rfl) (by kernel_rfl); obtain ⟨s8, a8, n8, c8, b8, h8⟩ := (S.mono hE).at 3 (g9) (IsI 12 zb) rfl; have L0 := b8.c0; have L1 := b8.c1; clear hd hf; intro K hK; go_simp; exact hK.out _ _ (Ext.refl _) h8 (FreshIf.no rfl) }) ?_
    refine RgAll.cons (by { (with_reducible refine RgL.mk (by rfl) ?_); intro v a w' hE hd hf; have d0 : (IsI 12 zc) (v 0) w' := hd 0 (by kernel_rfl); have ev0 := hf.val 0 68 _ rfl (by kernel_rfl) (by kernel_rfl) (by kernel_rfl); have d1 : (IsI 12 zb) (v 1) w' := hd 1 (by kernel_rfl); have ev1 := hf.val 1 69 _ rfl (by kernel_rfl) (by kernel_rfl) (by kernel_rfl); clear hd hf; intro K hK; go_simp; go_at_call 11; go_split_ands; (with_reducible refine Calls.mono (DivMod_f d0 d1 (by decide) (by decide) (HZ.out)) ?_); rintro e w2 ⟨x, rfl, e2, hx⟩; exact hK.out _ _ e2 hx (FreshIf.no rfl) }) ?_
    refine RgAll.cons (by { (with_reducible refine RgL.mk (by rfl) ?_); intro v a w' hE hd hf; have d0 : (IsT3 (IsI 12 (zc / zb)) (IsI 12 (zc % zb)) (IsV (.int .i64 0))) (v 2) w' := hd 2 (by kernel_rfl); have ev0 := hf.val 2 70 _ rfl (by kernel_rfl) (by kernel_rfl) (by kernel_rfl); clear hd hf; intro K hK; go_simp; exact hK.out _ _ (Ext.refl _) d0 (FreshIf.no rfl) }) ?_
    refine RgAll.cons (by { (with_reducible refine RgL.mk (by rfl) ?_); intro v a w' hE hd hf; have d0 : (IsT3 (IsI 12 (zc / zb)) (IsI 12 (zc % zb)) (IsV (.int .i64 0))) (v 3) w' := hd 3 (by kernel_rfl); obtain ⟨x0, x1, x2, z0, y0, y1, y2⟩ := d0; have ev0 := hf.val 3 67 _ z0 (by kernel_rfl) (by kernel_rfl) (by kernel_rfl); clear z0; clear hd hf; intro K hK; go_simp; exact hK.out _ _ (Ext.refl _) y0 (FreshIf.no rfl) }) ?_
    refine RgAll.cons (by { (with_reducible refine RgL.mk (by rfl) ?_); intro v a w' hE hd hf; have d0 : (IsT3 (IsI 12 (zc / zb)) (IsI 12 (zc % zb)) (IsV (.int .i64 0))) (v 3) w' := hd 3 (by kernel_rfl); obtain ⟨x0, x1, x2, z0, y0, y1, y2⟩ := d0; have ev0 := hf.val 3 67 _ z0 (by kernel_rfl) (by kernel_rfl) (by kernel_rfl); clear z0; clear hd hf; intro K hK; go_simp; exact hK.out _ _ (Ext.refl _) y1 (FreshIf.no rfl) }) ?_
    refine RgAll.cons (by { (with_reducible refine RgL.mk (by rfl) ?_); intro v a w' hE hd hf; have d0 : (IsT3 (IsI 12 (zc / zb)) (IsI 12 (zc % zb)) (IsV (.int .i64 0))) (v 3) w' := hd 3 (by kernel_rfl); obtain ⟨x0, x1, x2, z0, y0, y1, y2⟩ := d0; have ev0 := hf.val 3 67 _ z0 (by kernel_rfl) (by kernel_rfl) (by kernel_rfl); clear z0; clear hd hf; intro K hK; go_simp; exact hK.out _ _ (Ext.refl _) y2 (FreshIf.no rfl) }) ?_
    refine RgAll.cons (by { (with_reducible refine RgL.mk (by rfl) ?_); intro v a w' hE hd hf; skip; clear hd hf; intro K hK; go_simp; refine hK.out _ _ ((Ext.refl _).alloc _) ⟨_, rfl, hE.size, Bx.new _ _ _ _ _⟩ FreshIf.yes }) ?_
    refine RgAll.cons (by { (with_reducible refine RgL.mk (by rfl) ?_); intro v a w' hE hd hf; skip; clear hd hf; intro K hK; go_simp; refine hK.out _ _ ((Ext.refl _).alloc _) ⟨_, rfl, hE.size, Bx.new _ _ _ _ _⟩ FreshIf.yes }) ?_
    exact RgAll.nil
  intro v W12 e1 hΦ hne
  replace S := S.mono e1
  obtain ⟨s71, a71, n71, c71, v4, h71⟩ := (hΦ 4 (by decide) : IsI 12 (zc / zb) (v 4) W12)
  obtain ⟨s72, a72, n72, c72, v5, h72⟩ := (hΦ 5 (by decide) : IsI 12 (zc % zb) (v 5) W12)
  have v6 : v 6 = .int .i64 0 := hΦ 6 (by decide)
  obtain ⟨g14, v7, q12, b11⟩ := (hΦ 7 (by decide) : IsB W11 (v 7) W12)
  replace S := S.addN (Apart.old hl.out q12) (Nat.le_trans hw q12) b11
  clear b11
  obtain ⟨g15, v8, q14, b13⟩ := (hΦ 8 (by decide) : IsB W11 (v 8) W12)
  replace S := S.addN (Apart.cons (fun h => hne 7 8 (by decide) (by decide) (by decide) (by decide) (by decide) (by rw [v7, v8, h])) (Apart.old hl.out q14)) (Nat.le_trans hw q14) b13
  clear b13
  clear hne
  simp only [layL, Act.put, List.setIfInBounds_toArray, List.set_cons_zero, List.set_cons_succ, Nat.reduceAdd]
  rw [v4, v5, v6, v7, v8]
  clear v4 v5 v6 v7 v8
  clear hΦ
  clear hl hw
  clear e1
  obtain ⟨s8, a8, n8, c8, b8, _⟩ := S.at 1 (g14) (IsI 0 0) rfl; have F1 := b8.c0; have F2 := b8.c1; have F3 := b8.f0; have F4 := b8.f1
  refine wpList_step fun K hK => ?_; go_simp; refine hK _ _ ?_; clear hK K
  clear F1 F2 F3 F4 b8
  obtain ⟨W13, hW, S2, G2, _⟩ := S.put 1 (g14) (IsI 0 0) (IsI 12 (zc / zb)) rfl s71 a71 n71 c71 (IsI.gstb _ _) ⟨_, _, _, _, rfl, h71⟩
  rw [← hW]; clear hW S
  replace h72 := h72.gr G2
  have S : St w W13 [(g15, IsI 0 0), (g14, IsI 12 (zc / zb)), (g12, IsI 12 (za % zb)), (g11, IsI 12 (za / zb)), (g10, IsI 12 zc), (g9, IsI 12 zb), (g8, IsI 12 za), (w.heap.size + 1 + 1, IsR s3 x3), (w.heap.size + 1, IsR s2 x2), (w.heap.size, IsR s1 x1)] := S2; clear S2 G2
  clear h71
  obtain ⟨s8, a8, n8, c8, b8, _⟩ := S.at 0 (g15) (IsI 0 0) rfl; have F1 := b8.c0; have F2 := b8.c1; have F3 := b8.f0; have F4 := b8.f1
  refine wpList_step fun K hK => ?_; go_simp; refine hK _ _ ?_; clear hK K
  clear F1 F2 F3 F4 b8
  obtain ⟨W14, hW, S2, G2, _⟩ := S.put 0 (g15) (IsI 0 0) (IsI 12 (zc % zb)) rfl s72 a72 n72 c72 (IsI.gstb _ _) ⟨_, _, _, _, rfl, h72⟩
  rw [← hW]; clear hW S
  have S : St w W14 [(g15, IsI 12 (zc % zb)), (g14, IsI 12 (zc / zb)), (g12, IsI 12 (za % zb)), (g11, IsI 12 (za / zb)), (g10, IsI 12 zc), (g9, IsI 12 zb), (g8, IsI 12 za), (w.heap.size + 1 + 1, IsR s3 x3), (w.heap.size + 1, IsR s2 x2), (w.heap.size, IsR s1 x1)] := S2; clear S2 G2
  clear h72
  refine wpList_step fun K hK => ?_; go_simp; refine hK _ _ ?_; clear hK K
  refine wpList_nil ?_
  go_upto_region 11 with (fail)
  have hl := hid S.lt; have hw := S.ext.size
  refine wp_region_rgO 11 [7, 8] [some 75, some 76, some 77, some 78, some 79, some 74, some 80, some 81, some 82, some 17, some 18] [IsI 12 za, IsI 12 zc, IsI 13 (za + zc), IsI 12 zb, IsT3 (IsI 13 ((za + zc) / zb)) (IsI 12 ((za + zc) % zb)) (IsV (.int .i64 0)), IsT3 (IsI 13 ((za + zc) / zb)) (IsI 12 ((za + zc) % zb)) (IsV (.int .i64 0)), IsI 13 ((za + zc) / zb), IsI 12 ((za + zc) % zb), IsV (.int .i64 0), IsB W14, IsB W14] [9, 10] 3 (by kernel_rfl) (by decide) (by kernel_rfl) (by kernel_rfl) (by kernel_rfl) (by kernel_rfl) (by kernel_rfl) (by kernel_rfl) ?_ ?_ ?_ ?_ ?_
  · repeat' (first | exact trivial | exact IsV.stb _ | exact IsI.stb _ _ | exact IsB.stb _ | exact IsR.stb _ _ | exact IsMag.stb _ _ | exact IsPos.stb | apply IsT3.stb | apply IsT2.stb | apply And.intro)
  · intro i hi; simp only [List.mem_cons, List.not_mem_nil, or_false] at hi; rcases hi with rfl | rfl <;> exact IsB.box _
  · intro i hi; simp only [List.mem_cons, List.not_mem_nil, or_false] at hi; rcases hi with rfl | rfl
    · (intro v w' hE hd; have d0 : (IsT3 (IsI 13 ((za + zc) / zb)) (IsI 12 ((za + zc) % zb)) (IsV (.int .i64 0))) (v 5) w' := hd 5 (by kernel_rfl); obtain ⟨x0, x1, x2, z0, y0, y1, y2⟩ := d0; refine ⟨_, _, rfl, Or.inl ⟨by rfl, ?_⟩, y1⟩; intro w9; simp only [layL, Act.put, List.setIfInBounds_toArray, List.set_cons_zero, List.set_cons_succ, Nat.reduceAdd]; rw [z0]; go_simp)
    · (intro v w' hE hd; have d0 : (IsT3 (IsI 13 ((za + zc) / zb)) (IsI 12 ((za + zc) % zb)) (IsV (.int .i64 0))) (v 5) w' := hd 5 (by kernel_rfl); obtain ⟨x0, x1, x2, z0, y0, y1, y2⟩ := d0; refine ⟨_, _, rfl, Or.inl ⟨by rfl, ?_⟩, y2⟩; intro w9; simp only [layL, Act.put, List.setIfInBounds_toArray, List.set_cons_zero, List.set_cons_succ, Nat.reduceAdd]; rw [z0]; go_simp)
  · refine RgAll.cons (by { (with_reducible refine RgL.mk (by rfl) ?_); intro v a w' hE hd hf; have ev0 := hf.lit 8 (.pointer (some ⟨g8, 0, none⟩)) (by kernel_rfl) (by kernel_rfl); obtain ⟨s8, a8, n8, c8, b8, h8⟩ := (S.mono hE).at 6 (g8) (IsI 12 za) rfl; have L0 := b8.c0; have L1 := b8.c1; clear hd hf; intro K hK; go_simp; exact hK.out _ _ (Ext.refl _) h8 (FreshIf.no rfl) }) ?_
    refine RgAll.cons (by { (with_reducible refine RgL.mk (by rfl) ?_); intro v a w' hE hd hf; have ev0 := hf.lit 10 (.pointer (some ⟨g10, 0, none⟩)) (by kernel_rfl) (by kernel_rfl); obtain ⟨s8, a8, n8, c8, b8, h8⟩ := (S.mono hE).at 4 (g10) (IsI 12 zc) rfl; have L0 := b8.c0; have L1 := b8.c1; clear hd hf; intro K hK; go_simp; exact hK.out _ _ (Ext.refl _) h8 (FreshIf.no rfl) }) ?_
    refine RgAll.cons (by { (with_reducible refine RgL.mk (by rfl) ?_); intro v a w' hE hd hf; have d0 : (IsI 12 za) (v 0) w' := hd 0 (by kernel_rfl); have ev0 := hf.val 0 75 _ rfl (by kernel_rfl) (by kernel_rfl) (by kernel_rfl); have d1 : (IsI 12 zc) (v 1) w' := hd 1 (by kernel_rfl); have ev1 := hf.val 1 76 _ rfl (by kernel_rfl) (by kernel_rfl) (by kernel_rfl); clear hd hf; intro K hK; go_simp; go_at_call 12; go_split_ands; (with_reducible refine Calls.mono (Add_f d0 d1 (by decide) (by decide)) ?_); rintro e w2 ⟨x, rfl, e2, hx⟩; exact hK.out _ _ e2 hx (FreshIf.no rfl) }) ?_
    refine RgAll.cons (by { (with_reducible refine RgL.mk (by rfl) ?_); intro v a w' hE hd hf; have ev0 := hf.lit 9 (.pointer (some ⟨g9, 0, none⟩)) (by kernel_rfl) (by kernel_rfl); obtain ⟨s8, a8, n8, c8, b8, h8⟩ := (S.mono hE).at 5 (g9) (IsI 12 zb) rfl; have L0 := b8.c0; have L1 := b8.c1; clear hd hf; intro K hK; go_simp; exact hK.out _ _ (Ext.refl _) h8 (FreshIf.no rfl) }) ?_
    refine RgAll.cons (by { (with_reducible refine RgL.mk (by rfl) ?_); intro v a w' hE hd hf; have d0 : (IsI 13 (za + zc)) (v 2) w' := hd 2 (by kernel_rfl); have ev0 := hf.val 2 77 _ rfl (by kernel_rfl) (by kernel_rfl) (by kernel_rfl); have d1 : (IsI 12 zb) (v 3) w' := hd 3 (by kernel_rfl); have ev1 := hf.val 3 78 _ rfl (by kernel_rfl) (by kernel_rfl) (by kernel_rfl); clear hd hf; intro K hK; go_simp; go_at_call 11; go_split_ands; (with_reducible refine Calls.mono (DivMod_f d0 d1 (by decide) (by decide) (HZ.out)) ?_); rintro e w2 ⟨x, rfl, e2, hx⟩; exact hK.out _ _ e2 hx (FreshIf.no rfl) }) ?_
    refine RgAll.cons (by { (with_reducible refine RgL.mk (by rfl) ?_); intro v a w' hE hd hf; have d0 : (IsT3 (IsI 13 ((za + zc) / zb)) (IsI 12 ((za + zc) % zb)) (IsV (.int .i64 0))) (v 4) w' := hd 4 (by kernel_rfl); have ev0 := hf.val 4 79 _ rfl (by kernel_rfl) (by kernel_rfl) (by kernel_rfl); clear hd hf; intro K hK; go_simp; exact hK.out _ _ (Ext.refl _) d0 (FreshIf.no rfl) }) ?_
    refine RgAll.cons (by { (with_reducible refine RgL.mk (by rfl) ?_); intro v a w' hE hd hf; have d0 : (IsT3 (IsI 13 ((za + zc) / zb)) (IsI 12 ((za + zc) % zb)) (IsV (.int .i64 0))) (v 5) w' := hd 5 (by kernel_rfl); obtain ⟨x0, x1, x2, z0, y0, y1, y2⟩ := d0; have ev0 := hf.val 5 74 _ z0 (by kernel_rfl) (by kernel_rfl) (by kernel_rfl); clear z0; clear hd hf; intro K hK; go_simp; exact hK.out _ _ (Ext.refl _) y0 (FreshIf.no rfl) }) ?_
    refine RgAll.cons (by { (with_reducible refine RgL.mk (by rfl) ?_); intro v a w' hE hd hf; have d0 : (IsT3 (IsI 13 ((za + zc) / zb)) (IsI 12 ((za + zc) % zb)) (IsV (.int .i64 0))) (v 5) w' := hd 5 (by kernel_rfl); obtain ⟨x0, x1, x2, z0, y0, y1, y2⟩ := d0; have ev0 := hf.val 5 74 _ z0 (by kernel_rfl) (by kernel_rfl) (by kernel_rfl); clear z0; clear hd hf; intro K hK; go_simp; exact hK.out _ _ (Ext.refl _) y1 (FreshIf.no rfl) }) ?_
    refine RgAll.cons (by { (with_reducible refine RgL.mk (by rfl) ?_); intro v a w' hE hd hf; have d0 : (IsT3 (IsI 13 ((za + zc) / zb)) (IsI 12 ((za + zc) % zb)) (IsV (.int .i64 0))) (v 5) w' := hd 5 (by kernel_rfl); obtain ⟨x0, x1, x2, z0, y0, y1, y2⟩ := d0; have ev0 := hf.val 5 74 _ z0 (by kernel_rfl) (by kernel_rfl) (by kernel_rfl); clear z0; clear hd hf; intro K hK; go_simp; exact hK.out _ _ (Ext.refl _) y2 (FreshIf.no rfl) }) ?_
    refine RgAll.cons (by { (with_reducible refine RgL.mk (by rfl) ?_); intro v a w' hE hd hf; skip; clear hd hf; intro K hK; go_simp; refine hK.out _ _ ((Ext.refl _).alloc _) ⟨_, rfl, hE.size, Bx.new _ _ _ _ _⟩ FreshIf.yes }) ?_
    refine RgAll.cons (by { (with_reducible refine RgL.mk (by rfl) ?_); intro v a w' hE hd hf; skip; clear hd hf; intro K hK; go_simp; refine hK.out _ _ ((Ext.refl _).alloc _) ⟨_, rfl, hE.size, Bx.new _ _ _ _ _⟩ FreshIf.yes }) ?_
    exact RgAll.nil
  intro v W15 e1 hΦ hne
  replace S := S.mono e1
  obtain ⟨s80, a80, n80, c80, v6, h80⟩ := (hΦ 6 (by decide) : IsI 13 ((za + zc) / zb) (v 6) W15)
  obtain ⟨s81, a81, n81, c81, v7, h81⟩ := (hΦ 7 (by decide) : IsI 12 ((za + zc) % zb) (v 7) W15)
  have v8 : v 8 = .int .i64 0 := hΦ 8 (by decide)
  obtain ⟨g17, v9, q16, b15⟩ := (hΦ 9 (by decide) : IsB W14 (v 9) W15)
  replace S := S.addN (Apart.old hl.out q16) (Nat.le_trans hw q16) b15
  clear b15
  obtain ⟨g18, v10, q18, b17⟩ := (hΦ 10 (by decide) : IsB W14 (v 10) W15)
  replace S := S.addN (Apart.cons (fun h => hne 9 10 (by decide) (by decide) (by decide) (by decide) (by decide) (by rw [v9, v10, h])) (Apart.old hl.out q18)) (Nat.le_trans hw q18) b17
  clear b17
  clear hne
  simp only [layL, Act.put, List.setIfInBounds_toArray, List.set_cons_zero, List.set_cons_succ, Nat.reduceAdd]
  rw [v6, v7, v8, v9, v10]
  clear v6 v7 v8 v9 v10
  clear hΦ
  clear hl hw
  clear e1
  obtain ⟨s8, a8, n8, c8, b8, _⟩ := S.at 1 (g17) (IsI 0 0) rfl; have F1 := b8.c0; have F2 := b8.c1; have F3 := b8.f0; have F4 := b8.f1
  refine wpAny_ready (rs := [11]) (by kernel_rfl) (by simp) (AllReady.cons rfl (fun K hK => ?_) AllReady.nil); go_simp; refine hK _ _ ?_; clear hK K
  clear F1 F2 F3 F4 b8
  obtain ⟨W16, hW, S2, G2, _⟩ := S.put 1 (g17) (IsI 0 0) (IsI 13 ((za + zc) / zb)) rfl s80 a80 n80 c80 (IsI.gstb _ _) ⟨_, _, _, _, rfl, h80⟩
  rw [← hW]; clear hW S
  replace h81 := h81.gr G2
  have S : St w W16 [(g18, IsI 0 0), (g17, IsI 13 ((za + zc) / zb)), (g15, IsI 12 (zc % zb)), (g14, IsI 12 (zc / zb)), (g12, IsI 12 (za % zb)), (g11, IsI 12 (za / zb)), (g10, IsI 12 zc), (g9, IsI 12 zb), (g8, IsI 12 za), (w.heap.size + 1 + 1, IsR s3 x3), (w.heap.size + 1, IsR s2 x2), (w.heap.size, IsR s1 x1)] := S2; clear S2 G2
  clear h80
  obtain ⟨s8, a8, n8, c8, b8, _⟩ := S.at 0 (g18) (IsI 0 0) rfl; have F1 := b8.c0; have F2 := b8.c1; have F3 := b8.f0; have F4 := b8.f1
  refine wpAny_ready (rs := [12]) (by kernel_rfl) (by simp) (AllReady.cons rfl (fun K hK => ?_) AllReady.nil); go_simp; refine hK _ _ ?_; clear hK K
  clear F1 F2 F3 F4 b8
  obtain ⟨W17, hW, S2, G2, _⟩ := S.put 0 (g18) (IsI 0 0) (IsI 12 ((za + zc) % zb)) rfl s81 a81 n81 c81 (IsI.gstb _ _) ⟨_, _, _, _, rfl, h81⟩
  rw [← hW]; clear hW S
  have S : St w W17 [(g18, IsI 12 ((za + zc) % zb)), (g17, IsI 13 ((za + zc) / zb)), (g15, IsI 12 (zc % zb)), (g14, IsI 12 (zc / zb)), (g12, IsI 12 (za % zb)), (g11, IsI 12 (za / zb)), (g10, IsI 12 zc), (g9, IsI 12 zb), (g8, IsI 12 za), (w.heap.size + 1 + 1, IsR s3 x3), (w.heap.size + 1, IsR s2 x2), (w.heap.size, IsR s1 x1)] := S2; clear S2 G2
  clear h81
  refine wpAny_ready (rs := [13]) (by kernel_rfl) (by simp) (AllReady.cons rfl (fun K hK => ?_) AllReady.nil); go_simp; refine hK _ _ ?_; clear hK K
  refine wpAny_done (by kernel_rfl) (NoPanic.normal ?_) _
  go_upto_region 12 with (fail)
  have hl := hid S.lt; have hw := S.ext.size
  refine wp_region_rgO 11 [7, 8] [some 84, some 85, some 86, some 87, some 88, some 83, some 89, some 90, some 91, some 20, some 21] [IsI 12 (za % zb), IsI 12 (zc % zb), IsI 13 ((za % zb) + (zc % zb)), IsI 12 zb, IsT3 (IsI 13 (((za % zb) + (zc % zb)) / zb)) (IsI 12 (((za % zb) + (zc % zb)) % zb)) (IsV (.int .i64 0)), IsT3 (IsI 13 (((za % zb) + (zc % zb)) / zb)) (IsI 12 (((za % zb) + (zc % zb)) % zb)) (IsV (.int .i64 0)), IsI 13 (((za % zb) + (zc % zb)) / zb), IsI 12 (((za % zb) + (zc % zb)) % zb), IsV (.int .i64 0), IsB W17, IsB W17] [9, 10] 3 (by kernel_rfl) (by decide) (by kernel_rfl) (by kernel_rfl) (by kernel_rfl) (by kernel_rfl) (by kernel_rfl) (by kernel_rfl) ?_ ?_ ?_ ?_ ?_
  · repeat' (first | exact trivial | exact IsV.stb _ | exact IsI.stb _ _ | exact IsB.stb _ | exact IsR.stb _ _ | exact IsMag.stb _ _ | exact IsPos.stb | apply IsT3.stb | apply IsT2.stb | apply And.intro)
  · intro i hi; simp only [List.mem_cons, List.not_mem_nil, or_false] at hi; rcases hi with rfl | rfl <;> exact IsB.box _
  · intro i hi; simp only [List.mem_cons, List.not_mem_nil, or_false] at hi; rcases hi with rfl | rfl
    · (intro v w' hE hd; have d0 : (IsT3 (IsI 13 (((za % zb) + (zc % zb)) / zb)) (IsI 12 (((za % zb) + (zc % zb)) % zb)) (IsV (.int .i64 0))) (v 5) w' := hd 5 (by kernel_rfl); obtain ⟨x0, x1, x2, z0, y0, y1, y2⟩ := d0; refine ⟨_, _, rfl, Or.inl ⟨by rfl, ?_⟩, y1⟩; intro w9; simp only [layL, Act.put, List.setIfInBounds_toArray, List.set_cons_zero, List.set_cons_succ, Nat.reduceAdd]; rw [z0]; go_simp)
    · (intro v w' hE hd; have d0 : (IsT3 (IsI 13 (((za % zb) + (zc % zb)) / zb)) (IsI 12 (((za % zb) + (zc % zb)) % zb)) (IsV (.int .i64 0))) (v 5) w' := hd 5 (by kernel_rfl); obtain ⟨x0, x1, x2, z0, y0, y1, y2⟩ := d0; refine ⟨_, _, rfl, Or.inl ⟨by rfl, ?_⟩, y2⟩; intro w9; simp only [layL, Act.put, List.setIfInBounds_toArray, List.set_cons_zero, List.set_cons_succ, Nat.reduceAdd]; rw [z0]; go_simp)
  · refine RgAll.cons (by { (with_reducible refine RgL.mk (by rfl) ?_); intro v a w' hE hd hf; have ev0 := hf.lit 12 (.pointer (some ⟨g12, 0, none⟩)) (by kernel_rfl) (by kernel_rfl); obtain ⟨s8, a8, n8, c8, b8, h8⟩ := (S.mono hE).at 4 (g12) (IsI 12 (za % zb)) rfl; have L0 := b8.c0; have L1 := b8.c1; clear hd hf; intro K hK; go_simp; exact hK.out _ _ (Ext.refl _) h8 (FreshIf.no rfl) }) ?_
    refine RgAll.cons (by { (with_reducible refine RgL.mk (by rfl) ?_); intro v a w' hE hd hf; have ev0 := hf.lit 15 (.pointer (some ⟨g15, 0, none⟩)) (by kernel_rfl) (by kernel_rfl); obtain ⟨s8, a8, n8, c8, b8, h8⟩ := (S.mono hE).at 2 (g15) (IsI 12 (zc % zb)) rfl; have L0 := b8.c0; have L1 := b8.c1; clear hd hf; intro K hK; go_simp; exact hK.out _ _ (Ext.refl _) h8 (FreshIf.no rfl) }) ?_
    refine RgAll.cons (by { (with_reducible refine RgL.mk (by rfl) ?_); intro v a w' hE hd hf; have d0 : (IsI 12 (za % zb)) (v 0) w' := hd 0 (by kernel_rfl); have ev0 := hf.val 0 84 _ rfl (by kernel_rfl) (by kernel_rfl) (by kernel_rfl); have d1 : (IsI 12 (zc % zb)) (v 1) w' := hd 1 (by kernel_rfl); have ev1 := hf.val 1 85 _ rfl (by kernel_rfl) (by kernel_rfl) (by kernel_rfl); clear hd hf; intro K hK; go_simp; go_at_call 12; go_split_ands; (with_reducible refine Calls.mono (Add_f d0 d1 (by decide) (by decide)) ?_); rintro e w2 ⟨x, rfl, e2, hx⟩; exact hK.out _ _ e2 hx (FreshIf.no rfl) }) ?_
    refine RgAll.cons (by { (with_reducible refine RgL.mk (by rfl) ?_); intro v a w' hE hd hf; have ev0 := hf.lit 9 (.pointer (some ⟨g9, 0, none⟩)) (by kernel_rfl) (by kernel_rfl); obtain ⟨s8, a8, n8, c8, b8, h8⟩ := (S.mono hE).at 7 (g9) (IsI 12 zb) rfl; have L0 := b8.c0; have L1 := b8.c1; clear hd hf; intro K hK; go_simp; exact hK.out _ _ (Ext.refl _) h8 (FreshIf.no rfl) }) ?_
    refine RgAll.cons (by { (with_reducible refine RgL.mk (by rfl) ?_); intro v a w' hE hd hf; have d0 : (IsI 13 ((za % zb) + (zc % zb))) (v 2) w' := hd 2 (by kernel_rfl); have ev0 := hf.val 2 86 _ rfl (by kernel_rfl) (by kernel_rfl) (by kernel_rfl); have d1 : (IsI 12 zb) (v 3) w' := hd 3 (by kernel_rfl); have ev1 := hf.val 3 87 _ rfl (by kernel_rfl) (by kernel_rfl) (by kernel_rfl); clear hd hf; intro K hK; go_simp; go_at_call 11; go_split_ands; (with_reducible refine Calls.mono (DivMod_f d0 d1 (by decide) (by decide) (HZ.out)) ?_); rintro e w2 ⟨x, rfl, e2, hx⟩; exact hK.out _ _ e2 hx (FreshIf.no rfl) }) ?_
    refine RgAll.cons (by { (with_reducible refine RgL.mk (by rfl) ?_); intro v a w' hE hd hf; have d0 : (IsT3 (IsI 13 (((za % zb) + (zc % zb)) / zb)) (IsI 12 (((za % zb) + (zc % zb)) % zb)) (IsV (.int .i64 0))) (v 4) w' := hd 4 (by kernel_rfl); have ev0 := hf.val 4 88 _ rfl (by kernel_rfl) (by kernel_rfl) (by kernel_rfl); clear hd hf; intro K hK; go_simp; exact hK.out _ _ (Ext.refl _) d0 (FreshIf.no rfl) }) ?_
    refine RgAll.cons (by { (with_reducible refine RgL.mk (by rfl) ?_); intro v a w' hE hd hf; have d0 : (IsT3 (IsI 13 (((za % zb) + (zc % zb)) / zb)) (IsI 12 (((za % zb) + (zc % zb)) % zb)) (IsV (.int .i64 0))) (v 5) w' := hd 5 (by kernel_rfl); obtain ⟨x0, x1, x2, z0, y0, y1, y2⟩ := d0; have ev0 := hf.val 5 83 _ z0 (by kernel_rfl) (by kernel_rfl) (by kernel_rfl); clear z0; clear hd hf; intro K hK; go_simp; exact hK.out _ _ (Ext.refl _) y0 (FreshIf.no rfl) }) ?_
    refine RgAll.cons (by { (with_reducible refine RgL.mk (by rfl) ?_); intro v a w' hE hd hf; have d0 : (IsT3 (IsI 13 (((za % zb) + (zc % zb)) / zb)) (IsI 12 (((za % zb) + (zc % zb)) % zb)) (IsV (.int .i64 0))) (v 5) w' := hd 5 (by kernel_rfl); obtain ⟨x0, x1, x2, z0, y0, y1, y2⟩ := d0; have ev0 := hf.val 5 83 _ z0 (by kernel_rfl) (by kernel_rfl) (by kernel_rfl); clear z0; clear hd hf; intro K hK; go_simp; exact hK.out _ _ (Ext.refl _) y1 (FreshIf.no rfl) }) ?_
    refine RgAll.cons (by { (with_reducible refine RgL.mk (by rfl) ?_); intro v a w' hE hd hf; have d0 : (IsT3 (IsI 13 (((za % zb) + (zc % zb)) / zb)) (IsI 12 (((za % zb) + (zc % zb)) % zb)) (IsV (.int .i64 0))) (v 5) w' := hd 5 (by kernel_rfl); obtain ⟨x0, x1, x2, z0, y0, y1, y2⟩ := d0; have ev0 := hf.val 5 83 _ z0 (by kernel_rfl) (by kernel_rfl) (by kernel_rfl); clear z0; clear hd hf; intro K hK; go_simp; exact hK.out _ _ (Ext.refl _) y2 (FreshIf.no rfl) }) ?_
    refine RgAll.cons (by { (with_reducible refine RgL.mk (by rfl) ?_); intro v a w' hE hd hf; skip; clear hd hf; intro K hK; go_simp; refine hK.out _ _ ((Ext.refl _).alloc _) ⟨_, rfl, hE.size, Bx.new _ _ _ _ _⟩ FreshIf.yes }) ?_
    refine RgAll.cons (by { (with_reducible refine RgL.mk (by rfl) ?_); intro v a w' hE hd hf; skip; clear hd hf; intro K hK; go_simp; refine hK.out _ _ ((Ext.refl _).alloc _) ⟨_, rfl, hE.size, Bx.new _ _ _ _ _⟩ FreshIf.yes }) ?_
    exact RgAll.nil
  intro v W18 e1 hΦ hne
  replace S := S.mono e1
  obtain ⟨s89, a89, n89, c89, v6, h89⟩ := (hΦ 6 (by decide) : IsI 13 (((za % zb) + (zc % zb)) / zb) (v 6) W18)
  obtain ⟨s90, a90, n90, c90, v7, h90⟩ := (hΦ 7 (by decide) : IsI 12 (((za % zb) + (zc % zb)) % zb) (v 7) W18)
  have v8 : v 8 = .int .i64 0 := hΦ 8 (by decide)
  obtain ⟨g20, v9, q20, b19⟩ := (hΦ 9 (by decide) : IsB W17 (v 9) W18)
  replace S := S.addN (Apart.old hl.out q20) (Nat.le_trans hw q20) b19
  clear b19
  obtain ⟨g21, v10, q22, b21⟩ := (hΦ 10 (by decide) : IsB W17 (v 10) W18)
  replace S := S.addN (Apart.cons (fun h => hne 9 10 (by decide) (by decide) (by decide) (by decide) (by decide) (by rw [v9, v10, h])) (Apart.old hl.out q22)) (Nat.le_trans hw q22) b21
  clear b21
  clear hne
  simp only [layL, Act.put, List.setIfInBounds_toArray, List.set_cons_zero, List.set_cons_succ, Nat.reduceAdd]
  rw [v6, v7, v8, v9, v10]
  clear v6 v7 v8 v9 v10
  clear hΦ
  clear hl hw
  clear e1
  obtain ⟨s8, a8, n8, c8, b8, _⟩ := S.at 1 (g20) (IsI 0 0) rfl; have F1 := b8.c0; have F2 := b8.c1; have F3 := b8.f0; have F4 := b8.f1
  refine wpAny_ready (rs := [11]) (by kernel_rfl) (by simp) (AllReady.cons rfl (fun K hK => ?_) AllReady.nil); go_simp; refine hK _ _ ?_; clear hK K
  clear F1 F2 F3 F4 b8
  obtain ⟨W19, hW, S2, G2, _⟩ := S.put 1 (g20) (IsI 0 0) (IsI 13 (((za % zb) + (zc % zb)) / zb)) rfl s89 a89 n89 c89 (IsI.gstb _ _) ⟨_, _, _, _, rfl, h89⟩
  rw [← hW]; clear hW S
  replace h90 := h90.gr G2
  have S : St w W19 [(g21, IsI 0 0), (g20, IsI 13 (((za % zb) + (zc % zb)) / zb)), (g18, IsI 12 ((za + zc) % zb)), (g17, IsI 13 ((za + zc) / zb)), (g15, IsI 12 (zc % zb)), (g14, IsI 12 (zc / zb)), (g12, IsI 12 (za % zb)), (g11, IsI 12 (za / zb)), (g10, IsI 12 zc), (g9, IsI 12 zb), (g8, IsI 12 za), (w.heap.size + 1 + 1, IsR s3 x3), (w.heap.size + 1, IsR s2 x2), (w.heap.size, IsR s1 x1)] := S2; clear S2 G2
  clear h89
  obtain ⟨s8, a8, n8, c8, b8, _⟩ := S.at 0 (g21) (IsI 0 0) rfl; have F1 := b8.c0; have F2 := b8.c1; have F3 := b8.f0; have F4 := b8.f1
  refine wpAny_ready (rs := [12]) (by kernel_rfl) (by simp) (AllReady.cons rfl (fun K hK => ?_) AllReady.nil); go_simp; refine hK _ _ ?_; clear hK K
  clear F1 F2 F3 F4 b8
  obtain ⟨W20, hW, S2, G2, _⟩ := S.put 0 (g21) (IsI 0 0) (IsI 12 (((za % zb) + (zc % zb)) % zb)) rfl s90 a90 n90 c90 (IsI.gstb _ _) ⟨_, _, _, _, rfl, h90⟩
  rw [← hW]; clear hW S
  have S : St w W20 [(g21, IsI 12 (((za % zb) + (zc % zb)) % zb)), (g20, IsI 13 (((za % zb) + (zc % zb)) / zb)), (g18, IsI 12 ((za + zc) % zb)), (g17, IsI 13 ((za + zc) / zb)), (g15, IsI 12 (zc % zb)), (g14, IsI 12 (zc / zb)), (g12, IsI 12 (za % zb)), (g11, IsI 12 (za / zb)), (g10, IsI 12 zc), (g9, IsI 12 zb), (g8, IsI 12 za), (w.heap.size + 1 + 1, IsR s3 x3), (w.heap.size + 1, IsR s2 x2), (w.heap.size, IsR s1 x1)] := S2; clear S2 G2
  clear h90
  refine wpAny_ready (rs := [13]) (by kernel_rfl) (by simp) (AllReady.cons rfl (fun K hK => ?_) AllReady.nil); go_simp; refine hK _ _ ?_; clear hK K
  refine wpAny_done (by kernel_rfl) (NoPanic.normal ?_) _
  go_upto_region 13 with (fail)
  have hl := hid S.lt; have hw := S.ext.size
  refine wp_region_rgO 11 [7, 8] [some 93, some 94, some 95, some 96, some 97, some 92, some 98, some 99, some 100, some 23, some 24] [IsI 12 za, IsI 12 zc, IsI 24 (za * zc), IsI 12 zb, IsT3 (IsI 24 ((za * zc) / zb)) (IsI 12 ((za * zc) % zb)) (IsV (.int .i64 0)), IsT3 (IsI 24 ((za * zc) / zb)) (IsI 12 ((za * zc) % zb)) (IsV (.int .i64 0)), IsI 24 ((za * zc) / zb), IsI 12 ((za * zc) % zb), IsV (.int .i64 0), IsB W20, IsB W20] [9, 10] 3 (by kernel_rfl) (by decide) (by kernel_rfl) (by kernel_rfl) (by kernel_rfl) (by kernel_rfl) (by kernel_rfl) (by kernel_rfl) ?_ ?_ ?_ ?_ ?_
  · repeat' (first | exact trivial | exact IsV.stb _ | exact IsI.stb _ _ | exact IsB.stb _ | exact IsR.stb _ _ | exact IsMag.stb _ _ | exact IsPos.stb | apply IsT3.stb | apply IsT2.stb | apply And.intro)
  · intro i hi; simp only [List.mem_cons, List.not_mem_nil, or_false] at hi; rcases hi with rfl | rfl <;> exact IsB.box _
  · intro i hi; simp only [List.mem_cons, List.not_mem_nil, or_false] at hi; rcases hi with rfl | rfl
    · (intro v w' hE hd; have d0 : (IsT3 (IsI 24 ((za * zc) / zb)) (IsI 12 ((za * zc) % zb)) (IsV (.int .i64 0))) (v 5) w' := hd 5 (by kernel_rfl); obtain ⟨x0, x1, x2, z0, y0, y1, y2⟩ := d0; refine ⟨_, _, rfl, Or.inl ⟨by rfl, ?_⟩, y1⟩; intro w9; simp only [layL, Act.put, List.setIfInBounds_toArray, List.set_cons_zero, List.set_cons_succ, Nat.reduceAdd]; rw [z0]; go_simp)
    · (intro v w' hE hd; have d0 : (IsT3 (IsI 24 ((za * zc) / zb)) (IsI 12 ((za * zc) % zb)) (IsV (.int .i64 0))) (v 5) w' := hd 5 (by kernel_rfl); obtain ⟨x0, x1, x2, z0, y0, y1, y2⟩ := d0; refine ⟨_, _, rfl, Or.inl ⟨by rfl, ?_⟩, y2⟩; intro w9; simp only [layL, Act.put, List.setIfInBounds_toArray, List.set_cons_zero, List.set_cons_succ, Nat.reduceAdd]; rw [z0]; go_simp)
  · refine RgAll.cons (by { (with_reducible refine RgL.mk (by rfl) ?_); intro v a w' hE hd hf; have ev0 := hf.lit 8 (.pointer (some ⟨g8, 0, none⟩)) (by kernel_rfl) (by kernel_rfl); obtain ⟨s8, a8, n8, c8, b8, h8⟩ := (S.mono hE).at 10 (g8) (IsI 12 za) rfl; have L0 := b8.c0; have L1 := b8.c1; clear hd hf; intro K hK; go_simp; exact hK.out _ _ (Ext.refl _) h8 (FreshIf.no rfl) }) ?_
    refine RgAll.cons (by { (with_reducible refine RgL.mk (by rfl) ?_); intro v a w' hE hd hf; have ev0 := hf.lit 10 (.pointer (some ⟨g10, 0, none⟩)) (by kernel_rfl) (by kernel_rfl); obtain ⟨s8, a8, n8, c8, b8, h8⟩ := (S.mono hE).at 8 (g10) (IsI 12 zc) rfl; have L0 := b8.c0; have L1 := b8.c1; clear hd hf; intro K hK; go_simp; exact hK.out _ _ (Ext.refl _) h8 (FreshIf.no rfl) }) ?_
    refine RgAll.cons (by { (with_reducible refine RgL.mk (by rfl) ?_); intro v a w' hE hd hf; have d0 : (IsI 12 za) (v 0) w' := hd 0 (by kernel_rfl); have ev0 := hf.val 0 93 _ rfl (by kernel_rfl) (by kernel_rfl) (by kernel_rfl); have d1 : (IsI 12 zc) (v 1) w' := hd 1 (by kernel_rfl); have ev1 := hf.val 1 94 _ rfl (by kernel_rfl) (by kernel_rfl) (by kernel_rfl); clear hd hf; intro K hK; go_simp; go_at_call 13; go_split_ands; (with_reducible refine Calls.mono (Mul_f d0 d1 (by decide) (by decide)) ?_); rintro e w2 ⟨x, rfl, e2, hx⟩; exact hK.out _ _ e2 hx (FreshIf.no rfl) }) ?_
    refine RgAll.cons (by { (with_reducible refine RgL.mk (by rfl) ?_); intro v a w' hE hd hf; have ev0 := hf.lit 9 (.pointer (some ⟨g9, 0, none⟩)) (by kernel_rfl) (by kernel_rfl); obtain ⟨s8, a8, n8, c8, b8, h8⟩ := (S.mono hE).at 9 (g9) (IsI 12 zb) rfl; have L0 := b8.c0; have L1 := b8.c1; clear hd hf; intro K hK; go_simp; exact hK.out _ _ (Ext.refl _) h8 (FreshIf.no rfl) }) ?_
    refine RgAll.cons (by { (with_reducible refine RgL.mk (by rfl) ?_); intro v a w' hE hd hf; have d0 : (IsI 24 (za * zc)) (v 2) w' := hd 2 (by kernel_rfl); have ev0 := hf.val 2 95 _ rfl (by kernel_rfl) (by kernel_rfl) (by kernel_rfl); have d1 : (IsI 12 zb) (v 3) w' := hd 3 (by kernel_rfl); have ev1 := hf.val 3 96 _ rfl (by kernel_rfl) (by kernel_rfl) (by kernel_rfl); clear hd hf; intro K hK; go_simp; go_at_call 11; go_split_ands; (with_reducible refine Calls.mono (DivMod_f d0 d1 (by decide) (by decide) (HZ.out)) ?_); rintro e w2 ⟨x, rfl, e2, hx⟩; exact hK.out _ _ e2 hx (FreshIf.no rfl) }) ?_
    refine RgAll.cons (by { (with_reducible refine RgL.mk (by rfl) ?_); intro v a w' hE hd hf; have d0 : (IsT3 (IsI 24 ((za * zc) / zb)) (IsI 12 ((za * zc) % zb)) (IsV (.int .i64 0))) (v 4) w' := hd 4 (by kernel_rfl); have ev0 := hf.val 4 97 _ rfl (by kernel_rfl) (by kernel_rfl) (by kernel_rfl); clear hd hf; intro K hK; go_simp; exact hK.out _ _ (Ext.refl _) d0 (FreshIf.no rfl) }) ?_
    refine RgAll.cons (by { (with_reducible refine RgL.mk (by rfl) ?_); intro v a w' hE hd hf; have d0 : (IsT3 (IsI 24 ((za * zc) / zb)) (IsI 12 ((za * zc) % zb)) (IsV (.int .i64 0))) (v 5) w' := hd 5 (by kernel_rfl); obtain ⟨x0, x1, x2, z0, y0, y1, y2⟩ := d0; have ev0 := hf.val 5 92 _ z0 (by kernel_rfl) (by kernel_rfl) (by kernel_rfl); clear z0; clear hd hf; intro K hK; go_simp; exact hK.out _ _ (Ext.refl _) y0 (FreshIf.no rfl) }) ?_
    refine RgAll.cons (by { (with_reducible refine RgL.mk (by rfl) ?_); intro v a w' hE hd hf; have d0 : (IsT3 (IsI 24 ((za * zc) / zb)) (IsI 12 ((za * zc) % zb)) (IsV (.int .i64 0))) (v 5) w' := hd 5 (by kernel_rfl); obtain ⟨x0, x1, x2, z0, y0, y1, y2⟩ := d0; have ev0 := hf.val 5 92 _ z0 (by kernel_rfl) (by kernel_rfl) (by kernel_rfl); clear z0; clear hd hf; intro K hK; go_simp; exact hK.out _ _ (Ext.refl _) y1 (FreshIf.no rfl) }) ?_
    refine RgAll.cons (by { (with_reducible refine RgL.mk (by rfl) ?_); intro v a w' hE hd hf; have d0 : (IsT3 (IsI 24 ((za * zc) / zb)) (IsI 12 ((za * zc) % zb)) (IsV (.int .i64 0))) (v 5) w' := hd 5 (by kernel_rfl); obtain ⟨x0, x1, x2, z0, y0, y1, y2⟩ := d0; have ev0 := hf.val 5 92 _ z0 (by kernel_rfl) (by kernel_rfl) (by kernel_rfl); clear z0; clear hd hf; intro K hK; go_simp; exact hK.out _ _ (Ext.refl _) y2 (FreshIf.no rfl) }) ?_
    refine RgAll.cons (by { (with_reducible refine RgL.mk (by rfl) ?_); intro v a w' hE hd hf; skip; clear hd hf; intro K hK; go_simp; refine hK.out _ _ ((Ext.refl _).alloc _) ⟨_, rfl, hE.size, Bx.new _ _ _ _ _⟩ FreshIf.yes }) ?_
    refine RgAll.cons (by { (with_reducible refine RgL.mk (by rfl) ?_); intro v a w' hE hd hf; skip; clear hd hf; intro K hK; go_simp; refine hK.out _ _ ((Ext.refl _).alloc _) ⟨_, rfl, hE.size, Bx.new _ _ _ _ _⟩ FreshIf.yes }) ?_
    exact RgAll.nil
  intro v W21 e1 hΦ hne
  replace S := S.mono e1
  obtain ⟨s98, a98, n98, c98, v6, h98⟩ := (hΦ 6 (by decide) : IsI 24 ((za * zc) / zb) (v 6) W21)
  obtain ⟨s99, a99, n99, c99, v7, h99⟩ := (hΦ 7 (by decide) : IsI 12 ((za * zc) % zb) (v 7) W21)
  have v8 : v 8 = .int .i64 0 := hΦ 8 (by decide)
  obtain ⟨g23, v9, q24, b23⟩ := (hΦ 9 (by decide) : IsB W20 (v 9) W21)
  replace S := S.addN (Apart.old hl.out q24) (Nat.le_trans hw q24) b23
  clear b23
  obtain ⟨g24, v10, q26, b25⟩ := (hΦ 10 (by decide) : IsB W20 (v 10) W21)
  replace S := S.addN (Apart.cons (fun h => hne 9 10 (by decide) (by decide) (by decide) (by decide) (by decide) (by rw [v9, v10, h])) (Apart.old hl.out q26)) (Nat.le_trans hw q26) b25
  clear b25
  clear hne
  simp only [layL, Act.put, List.setIfInBounds_toArray, List.set_cons_zero, List.set_cons_succ, Nat.reduceAdd]
  rw [v6, v7, v8, v9, v10]
  clear v6 v7 v8 v9 v10
  clear hΦ
  clear hl hw
  clear e1
  obtain ⟨s8, a8, n8, c8, b8, _⟩ := S.at 1 (g23) (IsI 0 0) rfl; have F1 := b8.c0; have F2 := b8.c1; have F3 := b8.f0; have F4 := b8.f1
  refine wpAny_ready (rs := [11]) (by kernel_rfl) (by simp) (AllReady.cons rfl (fun K hK => ?_) AllReady.nil); go_simp; refine hK _ _ ?_; clear hK K
  clear F1 F2 F3 F4 b8
  obtain ⟨W22, hW, S2, G2, _⟩ := S.put 1 (g23) (IsI 0 0) (IsI 24 ((za * zc) / zb)) rfl s98 a98 n98 c98 (IsI.gstb _ _) ⟨_, _, _, _, rfl, h98⟩
  rw [← hW]; clear hW S
  replace h99 := h99.gr G2
  have S : St w W22 [(g24, IsI 0 0), (g23, IsI 24 ((za * zc) / zb)), (g21, IsI 12 (((za % zb) + (zc % zb)) % zb)), (g20, IsI 13 (((za % zb) + (zc % zb)) / zb)), (g18, IsI 12 ((za + zc) % zb)), (g17, IsI 13 ((za + zc) / zb)), (g15, IsI 12 (zc % zb)), (g14, IsI 12 (zc / zb)), (g12, IsI 12 (za % zb)), (g11, IsI 12 (za / zb)), (g10, IsI 12 zc), (g9, IsI 12 zb), (g8, IsI 12 za), (w.heap.size + 1 + 1, IsR s3 x3), (w.heap.size + 1, IsR s2 x2), (w.heap.size, IsR s1 x1)] := S2; clear S2 G2
  clear h98
  obtain ⟨s8, a8, n8, c8, b8, _⟩ := S.at 0 (g24) (IsI 0 0) rfl; have F1 := b8.c0; have F2 := b8.c1; have F3 := b8.f0; have F4 := b8.f1
  refine wpAny_ready (rs := [12]) (by kernel_rfl) (by simp) (AllReady.cons rfl (fun K hK => ?_) AllReady.nil); go_simp; refine hK _ _ ?_; clear hK K
  clear F1 F2 F3 F4 b8
  obtain ⟨W23, hW, S2, G2, _⟩ := S.put 0 (g24) (IsI 0 0) (IsI 12 ((za * zc) % zb)) rfl s99 a99 n99 c99 (IsI.gstb _ _) ⟨_, _, _, _, rfl, h99⟩
  rw [← hW]; clear hW S
  have S : St w W23 [(g24, IsI 12 ((za * zc) % zb)), (g23, IsI 24 ((za * zc) / zb)), (g21, IsI 12 (((za % zb) + (zc % zb)) % zb)), (g20, IsI 13 (((za % zb) + (zc % zb)) / zb)), (g18, IsI 12 ((za + zc) % zb)), (g17, IsI 13 ((za + zc) / zb)), (g15, IsI 12 (zc % zb)), (g14, IsI 12 (zc / zb)), (g12, IsI 12 (za % zb)), (g11, IsI 12 (za / zb)), (g10, IsI 12 zc), (g9, IsI 12 zb), (g8, IsI 12 za), (w.heap.size + 1 + 1, IsR s3 x3), (w.heap.size + 1, IsR s2 x2), (w.heap.size, IsR s1 x1)] := S2; clear S2 G2
  clear h99
  refine wpAny_ready (rs := [13]) (by kernel_rfl) (by simp) (AllReady.cons rfl (fun K hK => ?_) AllReady.nil); go_simp; refine hK _ _ ?_; clear hK K
  refine wpAny_done (by kernel_rfl) (NoPanic.normal ?_) _
  go_upto_region 14 with (fail)
  have hl := hid S.lt; have hw := S.ext.size
  refine wp_region_rgO 11 [7, 8] [some 102, some 103, some 104, some 105, some 106, some 101, some 107, some 108, some 109, some 26, some 27] [IsI 12 (za % zb), IsI 12 (zc % zb), IsI 24 ((za % zb) * (zc % zb)), IsI 12 zb, IsT3 (IsI 24 (((za % zb) * (zc % zb)) / zb)) (IsI 12 (((za % zb) * (zc % zb)) % zb)) (IsV (.int .i64 0)), IsT3 (IsI 24 (((za % zb) * (zc % zb)) / zb)) (IsI 12 (((za % zb) * (zc % zb)) % zb)) (IsV (.int .i64 0)), IsI 24 (((za % zb) * (zc % zb)) / zb), IsI 12 (((za % zb) * (zc % zb)) % zb), IsV (.int .i64 0), IsB W23, IsB W23] [9, 10] 3 (by kernel_rfl) (by decide) (by kernel_rfl) (by kernel_rfl) (by kernel_rfl) (by kernel_rfl) (by kernel_rfl) (by kernel_rfl) ?_ ?_ ?_ ?_ ?_
  · repeat' (first | exact trivial | exact IsV.stb _ | exact IsI.stb _ _ | exact IsB.stb _ | exact IsR.stb _ _ | exact IsMag.stb _ _ | exact IsPos.stb | apply IsT3.stb | apply IsT2.stb | apply And.intro)
  · intro i hi; simp only [List.mem_cons, List.not_mem_nil, or_false] at hi; rcases hi with rfl | rfl <;> exact IsB.box _
  · intro i hi; simp only [List.mem_cons, List.not_mem_nil, or_false] at hi; rcases hi with rfl | rfl
    · (intro v w' hE hd; have d0 : (IsT3 (IsI 24 (((za % zb) * (zc % zb)) / zb)) (IsI 12 (((za % zb) * (zc % zb)) % zb)) (IsV (.int .i64 0))) (v 5) w' := hd 5 (by kernel_rfl); obtain ⟨x0, x1, x2, z0, y0, y1, y2⟩ := d0; refine ⟨_, _, rfl, Or.inl ⟨by rfl, ?_⟩, y1⟩; intro w9; simp only [layL, Act.put, List.setIfInBounds_toArray, List.set_cons_zero, List.set_cons_succ, Nat.reduceAdd]; rw [z0]; go_simp)
    · (intro v w' hE hd; have d0 : (IsT3 (IsI 24 (((za % zb) * (zc % zb)) / zb)) (IsI 12 (((za % zb) * (zc % zb)) % zb)) (IsV (.int .i64 0))) (v 5) w' := hd 5 (by kernel_rfl); obtain ⟨x0, x1, x2, z0, y0, y1, y2⟩ := d0; refine ⟨_, _, rfl, Or.inl ⟨by rfl, ?_⟩, y2⟩; intro w9; simp only [layL, Act.put, List.setIfInBounds_toArray, List.set_cons_zero, List.set_cons_succ, Nat.reduceAdd]; rw [z0]; go_simp)
  · refine RgAll.cons (by { (with_reducible refine RgL.mk (by rfl) ?_); intro v a w' hE hd hf; have ev0 := hf.lit 12 (.pointer (some ⟨g12, 0, none⟩)) (by kernel_rfl) (by kernel_rfl); obtain ⟨s8, a8, n8, c8, b8, h8⟩ := (S.mono hE).at 8 (g12) (IsI 12 (za % zb)) rfl; have L0 := b8.c0; have L1 := b8.c1; clear hd hf; intro K hK; go_simp; exact hK.out _ _ (Ext.refl _) h8 (FreshIf.no rfl) }) ?_
    refine RgAll.cons (by { (with_reducible refine RgL.mk (by rfl) ?_); intro v a w' hE hd hf; have ev0 := hf.lit 15 (.pointer (some ⟨g15, 0, none⟩)) (by kernel_rfl) (by kernel_rfl); obtain ⟨s8, a8, n8, c8, b8, h8⟩ := (S.mono hE).at 6 (g15) (IsI 12 (zc % zb)) rfl; have L0 := b8.c0; have L1 := b8.c1; clear hd hf; intro K hK; go_simp; exact hK.out _ _ (Ext.refl _) h8 (FreshIf.no rfl) }) ?_
    refine RgAll.cons (by { (with_reducible refine RgL.mk (by rfl) ?_); intro v a w' hE hd hf; have d0 : (IsI 12 (za % zb)) (v 0) w' := hd 0 (by kernel_rfl); have ev0 := hf.val 0 102 _ rfl (by kernel_rfl) (by kernel_rfl) (by kernel_rfl); have d1 : (IsI 12 (zc % zb)) (v 1) w' := hd 1 (by kernel_rfl); have ev1 := hf.val 1 103 _ rfl (by kernel_rfl) (by kernel_rfl) (by kernel_rfl); clear hd hf; intro K hK; go_simp; go_at_call 13; go_split_ands; (with_reducible refine Calls.mono (Mul_f d0 d1 (by decide) (by decide)) ?_); rintro e w2 ⟨x, rfl, e2, hx⟩; exact hK.out _ _ e2 hx (FreshIf.no rfl) }) ?_
    refine RgAll.cons (by { (with_reducible refine RgL.mk (by rfl) ?_); intro v a w' hE hd hf; have ev0 := hf.lit 9 (.pointer (some ⟨g9, 0, none⟩)) (by kernel_rfl) (by kernel_rfl); obtain ⟨s8, a8, n8, c8, b8, h8⟩ := (S.mono hE).at 11 (g9) (IsI 12 zb) rfl; have L0 := b8.c0; have L1 := b8.c1; clear hd hf; intro K hK; go_simp; exact hK.out _ _ (Ext.refl _) h8 (FreshIf.no rfl) }) ?_
    refine RgAll.cons (by { (with_reducible refine RgL.mk (by rfl) ?_); intro v a w' hE hd hf; have d0 : (IsI 24 ((za % zb) * (zc % zb))) (v 2) w' := hd 2 (by kernel_rfl); have ev0 := hf.val 2 104 _ rfl (by kernel_rfl) (by kernel_rfl) (by kernel_rfl); have d1 : (IsI 12 zb) (v 3) w' := hd 3 (by kernel_rfl); have ev1 := hf.val 3 105 _ rfl (by kernel_rfl) (by kernel_rfl) (by kernel_rfl); clear hd hf; intro K hK; go_simp; go_at_call 11; go_split_ands; (with_reducible refine Calls.mono (DivMod_f d0 d1 (by decide) (by decide) (HZ.out)) ?_); rintro e w2 ⟨x, rfl, e2, hx⟩; exact hK.out _ _ e2 hx (FreshIf.no rfl) }) ?_
    refine RgAll.cons (by { (with_reducible refine RgL.mk (by rfl) ?_); intro v a w' hE hd hf; have d0 : (IsT3 (IsI 24 (((za % zb) * (zc % zb)) / zb)) (IsI 12 (((za % zb) * (zc % zb)) % zb)) (IsV (.int .i64 0))) (v 4) w' := hd 4 (by kernel_rfl); have ev0 := hf.val 4 106 _ rfl (by kernel_rfl) (by kernel_rfl) (by kernel_rfl); clear hd hf; intro K hK; go_simp; exact hK.out _ _ (Ext.refl _) d0 (FreshIf.no rfl) }) ?_
    refine RgAll.cons (by { (with_reducible refine RgL.mk (by rfl) ?_); intro v a w' hE hd hf; have d0 : (IsT3 (IsI 24 (((za % zb) * (zc % zb)) / zb)) (IsI 12 (((za % zb) * (zc % zb)) % zb)) (IsV (.int .i64 0))) (v 5) w' := hd 5 (by kernel_rfl); obtain ⟨x0, x1, x2, z0, y0, y1, y2⟩ := d0; have ev0 := hf.val 5 101 _ z0 (by kernel_rfl) (by kernel_rfl) (by kernel_rfl); clear z0; clear hd hf; intro K hK; go_simp; exact hK.out _ _ (Ext.refl _) y0 (FreshIf.no rfl) }) ?_
    refine RgAll.cons (by { (with_reducible refine RgL.mk (by rfl) ?_); intro v a w' hE hd hf; have d0 : (IsT3 (IsI 24 (((za % zb) * (zc % zb)) / zb)) (IsI 12 (((za % zb) * (zc % zb)) % zb)) (IsV (.int .i64 0))) (v 5) w' := hd 5 (by kernel_rfl); obtain ⟨x0, x1, x2, z0, y0, y1, y2⟩ := d0; have ev0 := hf.val 5 101 _ z0 (by kernel_rfl) (by kernel_rfl) (by kernel_rfl); clear z0; clear hd hf; intro K hK; go_simp; exact hK.out _ _ (Ext.refl _) y1 (FreshIf.no rfl) }) ?_
    refine RgAll.cons (by { (with_reducible refine RgL.mk (by rfl) ?_); intro v a w' hE hd hf; have d0 : (IsT3 (IsI 24 (((za % zb) * (zc % zb)) / zb)) (IsI 12 (((za % zb) * (zc % zb)) % zb)) (IsV (.int .i64 0))) (v 5) w' := hd 5 (by kernel_rfl); obtain ⟨x0, x1, x2, z0, y0, y1, y2⟩ := d0; have ev0 := hf.val 5 101 _ z0 (by kernel_rfl) (by kernel_rfl) (by kernel_rfl); clear z0; clear hd hf; intro K hK; go_simp; exact hK.out _ _ (Ext.refl _) y2 (FreshIf.no rfl) }) ?_
    refine RgAll.cons (by { (with_reducible refine RgL.mk (by rfl) ?_); intro v a w' hE hd hf; skip; clear hd hf; intro K hK; go_simp; refine hK.out _ _ ((Ext.refl _).alloc _) ⟨_, rfl, hE.size, Bx.new _ _ _ _ _⟩ FreshIf.yes }) ?_
    refine RgAll.cons (by { (with_reducible refine RgL.mk (by rfl) ?_); intro v a w' hE hd hf; skip; clear hd hf; intro K hK; go_simp; refine hK.out _ _ ((Ext.refl _).alloc _) ⟨_, rfl, hE.size, Bx.new _ _ _ _ _⟩ FreshIf.yes }) ?_
    exact RgAll.nil
  intro v W24 e1 hΦ hne
  replace S := S.mono e1
  obtain ⟨s107, a107, n107, c107, v6, h107⟩ := (hΦ 6 (by decide) : IsI 24 (((za % zb) * (zc % zb)) / zb) (v 6) W24)
  obtain ⟨s108, a108, n108, c108, v7, h108⟩ := (hΦ 7 (by decide) : IsI 12 (((za % zb) * (zc % zb)) % zb) (v 7) W24)
  have v8 : v 8 = .int .i64 0 := hΦ 8 (by decide)
  obtain ⟨g26, v9, q28, b27⟩ := (hΦ 9 (by decide) : IsB W23 (v 9) W24)
  replace S := S.addN (Apart.old hl.out q28) (Nat.le_trans hw q28) b27
  clear b27
  obtain ⟨g27, v10, q30, b29⟩ := (hΦ 10 (by decide) : IsB W23 (v 10) W24)
  replace S := S.addN (Apart.cons (fun h => hne 9 10 (by decide) (by decide) (by decide) (by decide) (by decide) (by rw [v9, v10, h])) (Apart.old hl.out q30)) (Nat.le_trans hw q30) b29
  clear b29
  clear hne
  simp only [layL, Act.put, List.setIfInBounds_toArray, List.set_cons_zero, List.set_cons_succ, Nat.reduceAdd]
  rw [v6, v7, v8, v9, v10]
  clear v6 v7 v8 v9 v10
  clear hΦ
  clear hl hw
  clear e1
  obtain ⟨s8, a8, n8, c8, b8, _⟩ := S.at 1 (g26) (IsI 0 0) rfl; have F1 := b8.c0; have F2 := b8.c1; have F3 := b8.f0; have F4 := b8.f1
  refine wpAny_ready (rs := [11]) (by kernel_rfl) (by simp) (AllReady.cons rfl (fun K hK => ?_) AllReady.nil); go_simp; refine hK _ _ ?_; clear hK K
  clear F1 F2 F3 F4 b8
  obtain ⟨W25, hW, S2, G2, _⟩ := S.put 1 (g26) (IsI 0 0) (IsI 24 (((za % zb) * (zc % zb)) / zb)) rfl s107 a107 n107 c107 (IsI.gstb _ _) ⟨_, _, _, _, rfl, h107⟩
  rw [← hW]; clear hW S
  replace h108 := h108.gr G2
  have S : St w W25 [(g27, IsI 0 0), (g26, IsI 24 (((za % zb) * (zc % zb)) / zb)), (g24, IsI 12 ((za * zc) % zb)), (g23, IsI 24 ((za * zc) / zb)), (g21, IsI 12 (((za % zb) + (zc % zb)) % zb)), (g20, IsI 13 (((za % zb) + (zc % zb)) / zb)), (g18, IsI 12 ((za + zc) % zb)), (g17, IsI 13 ((za + zc) / zb)), (g15, IsI 12 (zc % zb)), (g14, IsI 12 (zc / zb)), (g12, IsI 12 (za % zb)), (g11, IsI 12 (za / zb)), (g10, IsI 12 zc), (g9, IsI 12 zb), (g8, IsI 12 za), (w.heap.size + 1 + 1, IsR s3 x3), (w.heap.size + 1, IsR s2 x2), (w.heap.size, IsR s1 x1)] := S2; clear S2 G2
  clear h107
  obtain ⟨s8, a8, n8, c8, b8, _⟩ := S.at 0 (g27) (IsI 0 0) rfl; have F1 := b8.c0; have F2 := b8.c1; have F3 := b8.f0; have F4 := b8.f1
  refine wpAny_ready (rs := [12]) (by kernel_rfl) (by simp) (AllReady.cons rfl (fun K hK => ?_) AllReady.nil); go_simp; refine hK _ _ ?_; clear hK K
  clear F1 F2 F3 F4 b8
  obtain ⟨W26, hW, S2, G2, _⟩ := S.put 0 (g27) (IsI 0 0) (IsI 12 (((za % zb) * (zc % zb)) % zb)) rfl s108 a108 n108 c108 (IsI.gstb _ _) ⟨_, _, _, _, rfl, h108⟩
  rw [← hW]; clear hW S
  have S : St w W26 [(g27, IsI 12 (((za % zb) * (zc % zb)) % zb)), (g26, IsI 24 (((za % zb) * (zc % zb)) / zb)), (g24, IsI 12 ((za * zc) % zb)), (g23, IsI 24 ((za * zc) / zb)), (g21, IsI 12 (((za % zb) + (zc % zb)) % zb)), (g20, IsI 13 (((za % zb) + (zc % zb)) / zb)), (g18, IsI 12 ((za + zc) % zb)), (g17, IsI 13 ((za + zc) / zb)), (g15, IsI 12 (zc % zb)), (g14, IsI 12 (zc / zb)), (g12, IsI 12 (za % zb)), (g11, IsI 12 (za / zb)), (g10, IsI 12 zc), (g9, IsI 12 zb), (g8, IsI 12 za), (w.heap.size + 1 + 1, IsR s3 x3), (w.heap.size + 1, IsR s2 x2), (w.heap.size, IsR s1 x1)] := S2; clear S2 G2
  clear h108
  refine wpAny_ready (rs := [13]) (by kernel_rfl) (by simp) (AllReady.cons rfl (fun K hK => ?_) AllReady.nil); go_simp; refine hK _ _ ?_; clear hK K
  refine wpAny_done (by kernel_rfl) (NoPanic.normal ?_) _
  go_upto_region 15 with (fail)
  have hl := hid S.lt; have hw := S.ext.size
  refine wp_region_rgO 11 [7, 8] [some 111, some 112, some 113, some 114, some 115, some 110, some 116, some 117, some 118, some 29, some 30] [IsI 12 za, IsI 12 zb, IsI 24 (za * zb), IsI 12 zb, IsT3 (IsI 24 ((za * zb) / zb)) (IsI 12 ((za * zb) % zb)) (IsV (.int .i64 0)), IsT3 (IsI 24 ((za * zb) / zb)) (IsI 12 ((za * zb) % zb)) (IsV (.int .i64 0)), IsI 24 ((za * zb) / zb), IsI 12 ((za * zb) % zb), IsV (.int .i64 0), IsB W26, IsB W26] [9, 10] 3 (by kernel_rfl) (by decide) (by kernel_rfl) (by kernel_rfl) (by kernel_rfl) (by kernel_rfl) (by kernel_rfl) (by kernel_rfl) ?_ ?_ ?_ ?_ ?_
  · repeat' (first | exact trivial | exact IsV.stb _ | exact IsI.stb _ _ | exact IsB.stb _ | exact IsR.stb _ _ | exact IsMag.stb _ _ | exact IsPos.stb | apply IsT3.stb | apply IsT2.stb | apply And.intro)
  · intro i hi; simp only [List.mem_cons, List.not_mem_nil, or_false] at hi; rcases hi with rfl | rfl <;> exact IsB.box _
  · intro i hi; simp only [List.mem_cons, List.not_mem_nil, or_false] at hi; rcases hi with rfl | rfl
    · (intro v w' hE hd; have d0 : (IsT3 (IsI 24 ((za * zb) / zb)) (IsI 12 ((za * zb) % zb)) (IsV (.int .i64 0))) (v 5) w' := hd 5 (by kernel_rfl); obtain ⟨x0, x1, x2, z0, y0, y1, y2⟩ := d0; refine ⟨_, _, rfl, Or.inl ⟨by rfl, ?_⟩, y1⟩; intro w9; simp only [layL, Act.put, List.setIfInBounds_toArray, List.set_cons_zero, List.set_cons_succ, Nat.reduceAdd]; rw [z0]; go_simp)
    · (intro v w' hE hd; have d0 : (IsT3 (IsI 24 ((za * zb) / zb)) (IsI 12 ((za * zb) % zb)) (IsV (.int .i64 0))) (v 5) w' := hd 5 (by kernel_rfl); obtain ⟨x0, x1, x2, z0, y0, y1, y2⟩ := d0; refine ⟨_, _, rfl, Or.inl ⟨by rfl, ?_⟩, y2⟩; intro w9; simp only [layL, Act.put, List.setIfInBounds_toArray, List.set_cons_zero, List.set_cons_succ, Nat.reduceAdd]; rw [z0]; go_simp)
  · refine RgAll.cons (by { (with_reducible refine RgL.mk (by rfl) ?_); intro v a w' hE hd hf; have ev0 := hf.lit 8 (.pointer (some ⟨g8, 0, none⟩)) (by kernel_rfl) (by kernel_rfl); obtain ⟨s8, a8, n8, c8, b8, h8⟩ := (S.mono hE).at 14 (g8) (IsI 12 za) rfl; have L0 := b8.c0; have L1 := b8.c1; clear hd hf; intro K hK; go_simp; exact hK.out _ _ (Ext.refl _) h8 (FreshIf.no rfl) }) ?_
    refine RgAll.cons (by { (with_reducible refine RgL.mk (by rfl) ?_); intro v a w' hE hd hf; have ev0 := hf.lit 9 (.pointer (some ⟨g9, 0, none⟩)) (by kernel_rfl) (by kernel_rfl); obtain ⟨s8, a8, n8, c8, b8, h8⟩ := (S.mono hE).at 13 (g9) (IsI 12 zb) rfl; have L0 := b8.c0; have L1 := b8.c1; clear hd hf; intro K hK; go_simp; exact hK.out _ _ (Ext.refl _) h8 (FreshIf.no rfl) }) ?_
    refine RgAll.cons (by { (with_reducible refine RgL.mk (by rfl) ?_); intro v a w' hE hd hf; have d0 : (IsI 12 za) (v 0) w' := hd 0 (by kernel_rfl); have ev0 := hf.val 0 111 _ rfl (by kernel_rfl) (by kernel_rfl) (by kernel_rfl); have d1 : (IsI 12 zb) (v 1) w' := hd 1 (by kernel_rfl); have ev1 := hf.val 1 112 _ rfl (by kernel_rfl) (by kernel_rfl) (by kernel_rfl); clear hd hf; intro K hK; go_simp; go_at_call 13; go_split_ands; (with_reducible refine Calls.mono (Mul_f d0 d1 (by decide) (by decide)) ?_); rintro e w2 ⟨x, rfl, e2, hx⟩; exact hK.out _ _ e2 hx (FreshIf.no rfl) }) ?_
    refine RgAll.cons (by { (with_reducible refine RgL.mk (by rfl) ?_); intro v a w' hE hd hf; have ev0 := hf.lit 9 (.pointer (some ⟨g9, 0, none⟩)) (by kernel_rfl) (by kernel_rfl); obtain ⟨s8, a8, n8, c8, b8, h8⟩ := (S.mono hE).at 13 (g9) (IsI 12 zb) rfl; have L0 := b8.c0; have L1 := b8.c1; clear hd hf; intro K hK; go_simp; exact hK.out _ _ (Ext.refl _) h8 (FreshIf.no rfl) }) ?_
    refine RgAll.cons (by { (with_reducible refine RgL.mk (by rfl) ?_); intro v a w' hE hd hf; have d0 : (IsI 24 (za * zb)) (v 2) w' := hd 2 (by kernel_rfl); have ev0 := hf.val 2 113 _ rfl (by kernel_rfl) (by kernel_rfl) (by kernel_rfl); have d1 : (IsI 12 zb) (v 3) w' := hd 3 (by kernel_rfl); have ev1 := hf.val 3 114 _ rfl (by kernel_rfl) (by kernel_rfl) (by kernel_rfl); clear hd hf; intro K hK; go_simp; go_at_call 11; go_split_ands; (with_reducible refine Calls.mono (DivMod_f d0 d1 (by decide) (by decide) (HZ.out)) ?_); rintro e w2 ⟨x, rfl, e2, hx⟩; exact hK.out _ _ e2 hx (FreshIf.no rfl) }) ?_
    refine RgAll.cons (by { (with_reducible refine RgL.mk (by rfl) ?_); intro v a w' hE hd hf; have d0 : (IsT3 (IsI 24 ((za * zb) / zb)) (IsI 12 ((za * zb) % zb)) (IsV (.int .i64 0))) (v 4) w' := hd 4 (by kernel_rfl); have ev0 := hf.val 4 115 _ rfl (by kernel_rfl) (by kernel_rfl) (by kernel_rfl); clear hd hf; intro K hK; go_simp; exact hK.out _ _ (Ext.refl _) d0 (FreshIf.no rfl) }) ?_
    refine RgAll.cons (by { (with_reducible refine RgL.mk (by rfl) ?_); intro v a w' hE hd hf; have d0 : (IsT3 (IsI 24 ((za * zb) / zb)) (IsI 12 ((za * zb) % zb)) (IsV (.int .i64 0))) (v 5) w' := hd 5 (by kernel_rfl); obtain ⟨x0, x1, x2, z0, y0, y1, y2⟩ := d0; have ev0 := hf.val 5 110 _ z0 (by kernel_rfl) (by kernel_rfl) (by kernel_rfl); clear z0; clear hd hf; intro K hK; go_simp; exact hK.out _ _ (Ext.refl _) y0 (FreshIf.no rfl) }) ?_
    refine RgAll.cons (by { (with_reducible refine RgL.mk (by rfl) ?_); intro v a w' hE hd hf; have d0 : (IsT3 (IsI 24 ((za * zb) / zb)) (IsI 12 ((za * zb) % zb)) (IsV (.int .i64 0))) (v 5) w' := hd 5 (by kernel_rfl); obtain ⟨x0, x1, x2, z0, y0, y1, y2⟩ := d0; have ev0 := hf.val 5 110 _ z0 (by kernel_rfl) (by kernel_rfl) (by kernel_rfl); clear z0; clear hd hf; intro K hK; go_simp; exact hK.out _ _ (Ext.refl _) y1 (FreshIf.no rfl) }) ?_
    refine RgAll.cons (by { (with_reducible refine RgL.mk (by rfl) ?_); intro v a w' hE hd hf; have d0 : (IsT3 (IsI 24 ((za * zb) / zb)) (IsI 12 ((za * zb) % zb)) (IsV (.int .i64 0))) (v 5) w' := hd 5 (by kernel_rfl); obtain ⟨x0, x1, x2, z0, y0, y1, y2⟩ := d0; have ev0 := hf.val 5 110 _ z0 (by kernel_rfl) (by kernel_rfl) (by kernel_rfl); clear z0; clear hd hf; intro K hK; go_simp; exact hK.out _ _ (Ext.refl _) y2 (FreshIf.no rfl) }) ?_
    refine RgAll.cons (by { (with_reducible refine RgL.mk (by rfl) ?_); intro v a w' hE hd hf; skip; clear hd hf; intro K hK; go_simp; refine hK.out _ _ ((Ext.refl _).alloc _) ⟨_, rfl, hE.size, Bx.new _ _ _ _ _⟩ FreshIf.yes }) ?_
    refine RgAll.cons (by { (with_reducible refine RgL.mk (by rfl) ?_); intro v a w' hE hd hf; skip; clear hd hf; intro K hK; go_simp; refine hK.out _ _ ((Ext.refl _).alloc _) ⟨_, rfl, hE.size, Bx.new _ _ _ _ _⟩ FreshIf.yes }) ?_
    exact RgAll.nil
  intro v W27 e1 hΦ hne
  replace S := S.mono e1
  obtain ⟨s116, a116, n116, c116, v6, h116⟩ := (hΦ 6 (by decide) : IsI 24 ((za * zb) / zb) (v 6) W27)
  obtain ⟨s117, a117, n117, c117, v7, h117⟩ := (hΦ 7 (by decide) : IsI 12 ((za * zb) % zb) (v 7) W27)
  have v8 : v 8 = .int .i64 0 := hΦ 8 (by decide)
  obtain ⟨g29, v9, q32, b31⟩ := (hΦ 9 (by decide) : IsB W26 (v 9) W27)
  replace S := S.addN (Apart.old hl.out q32) (Nat.le_trans hw q32) b31
  clear b31
  obtain ⟨g30, v10, q34, b33⟩ := (hΦ 10 (by decide) : IsB W26 (v 10) W27)
  replace S := S.addN (Apart.cons (fun h => hne 9 10 (by decide) (by decide) (by decide) (by decide) (by decide) (by rw [v9, v10, h])) (Apart.old hl.out q34)) (Nat.le_trans hw q34) b33
  clear b33
  clear hne
  simp only [layL, Act.put, List.setIfInBounds_toArray, List.set_cons_zero, List.set_cons_succ, Nat.reduceAdd]
  rw [v6, v7, v8, v9, v10]
  clear v6 v7 v8 v9 v10
  clear hΦ
  clear hl hw
  clear e1
  obtain ⟨s8, a8, n8, c8, b8, _⟩ := S.at 1 (g29) (IsI 0 0) rfl; have F1 := b8.c0; have F2 := b8.c1; have F3 := b8.f0; have F4 := b8.f1
  refine wpAny_ready (rs := [11]) (by kernel_rfl) (by simp) (AllReady.cons rfl (fun K hK => ?_) AllReady.nil); go_simp; refine hK _ _ ?_; clear hK K
  clear F1 F2 F3 F4 b8
  obtain ⟨W28, hW, S2, G2, _⟩ := S.put 1 (g29) (IsI 0 0) (IsI 24 ((za * zb) / zb)) rfl s116 a116 n116 c116 (IsI.gstb _ _) ⟨_, _, _, _, rfl, h116⟩
  rw [← hW]; clear hW S
  replace h117 := h117.gr G2
  have S : St w W28 [(g30, IsI 0 0), (g29, IsI 24 ((za * zb) / zb)), (g27, IsI 12 (((za % zb) * (zc % zb)) % zb)), (g26, IsI 24 (((za % zb) * (zc % zb)) / zb)), (g24, IsI 12 ((za * zc) % zb)), (g23, IsI 24 ((za * zc) / zb)), (g21, IsI 12 (((za % zb) + (zc % zb)) % zb)), (g20, IsI 13 (((za % zb) + (zc % zb)) / zb)), (g18, IsI 12 ((za + zc) % zb)), (g17, IsI 13 ((za + zc) / zb)), (g15, IsI 12 (zc % zb)), (g14, IsI 12 (zc / zb)), (g12, IsI 12 (za % zb)), (g11, IsI 12 (za / zb)), (g10, IsI 12 zc), (g9, IsI 12 zb), (g8, IsI 12 za), (w.heap.size + 1 + 1, IsR s3 x3), (w.heap.size + 1, IsR s2 x2), (w.heap.size, IsR s1 x1)] := S2; clear S2 G2
  clear h116
  obtain ⟨s8, a8, n8, c8, b8, _⟩ := S.at 0 (g30) (IsI 0 0) rfl; have F1 := b8.c0; have F2 := b8.c1; have F3 := b8.f0; have F4 := b8.f1
  refine wpAny_ready (rs := [12]) (by kernel_rfl) (by simp) (AllReady.cons rfl (fun K hK => ?_) AllReady.nil); go_simp; refine hK _ _ ?_; clear hK K
  clear F1 F2 F3 F4 b8
  obtain ⟨W29, hW, S2, G2, _⟩ := S.put 0 (g30) (IsI 0 0) (IsI 12 ((za * zb) % zb)) rfl s117 a117 n117 c117 (IsI.gstb _ _) ⟨_, _, _, _, rfl, h117⟩
  rw [← hW]; clear hW S
  have S : St w W29 [(g30, IsI 12 ((za * zb) % zb)), (g29, IsI 24 ((za * zb) / zb)), (g27, IsI 12 (((za % zb) * (zc % zb)) % zb)), (g26, IsI 24 (((za % zb) * (zc % zb)) / zb)), (g24, IsI 12 ((za * zc) % zb)), (g23, IsI 24 ((za * zc) / zb)), (g21, IsI 12 (((za % zb) + (zc % zb)) % zb)), (g20, IsI 13 (((za % zb) + (zc % zb)) / zb)), (g18, IsI 12 ((za + zc) % zb)), (g17, IsI 13 ((za + zc) / zb)), (g15, IsI 12 (zc % zb)), (g14, IsI 12 (zc / zb)), (g12, IsI 12 (za % zb)), (g11, IsI 12 (za / zb)), (g10, IsI 12 zc), (g9, IsI 12 zb), (g8, IsI 12 za), (w.heap.size + 1 + 1, IsR s3 x3), (w.heap.size + 1, IsR s2 x2), (w.heap.size, IsR s1 x1)] := S2; clear S2 G2
  clear h117
  refine wpAny_ready (rs := [13]) (by kernel_rfl) (by simp) (AllReady.cons rfl (fun K hK => ?_) AllReady.nil); go_simp; refine hK _ _ ?_; clear hK K
  refine wpAny_done (by kernel_rfl) (NoPanic.normal ?_) _
  go_upto_region 18 with (fail)
  refine wp_region_rg 44 (some 145 :: some 146 :: some 147 :: some 148 :: some 149 :: some 150 :: some 151 :: some 152 :: some 153 :: some 154 :: some 155 :: some 156 :: some 157 :: some 158 :: some 159 :: some 160 :: some 161 :: some 162 :: some 163 :: some 164 :: some 165 :: some 166 :: some 167 :: some 168 :: some 169 :: some 170 :: some 171 :: some 172 :: some 173 :: some 174 :: some 175 :: some 176 :: some 177 :: some 178 :: some 179 :: some 180 :: some 181 :: some 182 :: some 183 :: some 184 :: some 185 :: some 186 :: some 187 :: some 6 :: []) (IsV (.bool true) :: IsV (.bool true) :: IsI 12 (za / zb) :: IsI 12 zb :: IsI 24 ((za / zb) * zb) :: IsI 12 (za % zb) :: IsI 25 (((za / zb) * zb) + (za % zb)) :: IsI 12 za :: IsV (.bool true) :: IsV (.bool true) :: IsV (.bool true) :: IsI 12 (za % zb) :: IsV (.int .i64 sg) :: IsV (.bool true) :: IsV (.bool true) :: IsV (.bool true) :: IsI 12 (za % zb) :: IsI 12 zb :: IsI 12 zb.natAbs :: IsV (.int .i64 (-1)) :: IsV (.bool true) :: IsV (.bool true) :: IsV (.bool true) :: IsI 12 ((za + zc) % zb) :: IsI 12 (((za % zb) + (zc % zb)) % zb) :: IsV (.bool true) :: IsV (.bool true) :: IsV (.bool true) :: IsI 12 ((za * zc) % zb) :: IsI 12 (((za % zb) * (zc % zb)) % zb) :: IsV (.bool true) :: IsV (.bool true) :: IsV (.bool true) :: IsI 24 ((za * zb) / zb) :: IsI 12 za :: IsV (.bool true) :: IsV (.bool true) :: IsV (.bool true) :: IsV (.pointer (some ⟨g30, 1, none⟩)) :: IsMag 12 ((za * zb) % zb) :: IsV (.int .i64 0) :: IsV (.bool true) :: IsV (.bool true) :: IsV (.bool true) :: []) [] 0 (by kernel_rfl) (by decide) (by kernel_rfl) (by kernel_rfl) (by kernel_rfl) (by kernel_rfl) (by kernel_rfl) ?_ ?_ ?_ ?_
  · repeat' (first | exact trivial | exact IsV.stb _ | exact IsI.stb _ _ | exact IsB.stb _ | exact IsR.stb _ _ | exact IsMag.stb _ _ | exact IsPos.stb | apply IsT3.stb | apply IsT2.stb | apply And.intro)
  · exact (fun _ h => by cases h)
  · refine RgAll.cons (by { (with_reducible refine RgL.mk (by rfl) ?_); intro v a w' hE hd hf; have ev0 := hf.lit 7 (.bool true) (by kernel_rfl) (by kernel_rfl); clear hd hf; intro K hK; go_simp; exact hK.out _ _ (Ext.refl _) rfl (FreshIf.no rfl) }) ?_
    refine RgAll.cons (by { (with_reducible refine RgL.mk (by rfl) ?_); intro v a w' hE hd hf; have d0 : v 0 = .bool true := hd 0 (by kernel_rfl); have ev0 := hf.val 0 145 _ d0 (by kernel_rfl) (by kernel_rfl) (by kernel_rfl); clear d0; clear hd hf; intro K hK; go_simp; exact hK.out _ _ (Ext.refl _) rfl (FreshIf.no rfl) }) ?_
    refine RgAll.cons (by { (with_reducible refine RgL.mkG 1 146 true (by rfl) (by kernel_rfl) (by kernel_rfl) (by kernel_rfl) (by kernel_rfl) (by kernel_rfl) ?_ ?_); (focus (intro _ _ h; exact h)); intro v a w' hE hd hf; have ev0 := hf.lit 11 (.pointer (some ⟨g11, 0, none⟩)) (by kernel_rfl) (by kernel_rfl); obtain ⟨s8, a8, n8, c8, b8, h8⟩ := (S.mono hE).at 13 (g11) (IsI 12 (za / zb)) rfl; have L0 := b8.c0; have L1 := b8.c1; clear hd hf; intro K hK; go_simp; exact hK.out _ _ (Ext.refl _) h8 (FreshIf.no rfl) }) ?_
    refine RgAll.cons (by { (with_reducible refine RgL.mkG 1 146 true (by rfl) (by kernel_rfl) (by kernel_rfl) (by kernel_rfl) (by kernel_rfl) (by kernel_rfl) ?_ ?_); (focus (intro _ _ h; exact h)); intro v a w' hE hd hf; have ev0 := hf.lit 9 (.pointer (some ⟨g9, 0, none⟩)) (by kernel_rfl) (by kernel_rfl); obtain ⟨s8, a8, n8, c8, b8, h8⟩ := (S.mono hE).at 15 (g9) (IsI 12 zb) rfl; have L0 := b8.c0; have L1 := b8.c1; clear hd hf; intro K hK; go_simp; exact hK.out _ _ (Ext.refl _) h8 (FreshIf.no rfl) }) ?_
    refine RgAll.cons (by { (with_reducible refine RgL.mkG 1 146 true (by rfl) (by kernel_rfl) (by kernel_rfl) (by kernel_rfl) (by kernel_rfl) (by kernel_rfl) ?_ ?_); (focus (intro _ _ h; exact h)); intro v a w' hE hd hf; have d0 : (IsI 12 (za / zb)) (v 2) w' := hd 2 (by kernel_rfl); have ev0 := hf.val 2 147 _ rfl (by kernel_rfl) (by kernel_rfl) (by kernel_rfl); have d1 : (IsI 12 zb) (v 3) w' := hd 3 (by kernel_rfl); have ev1 := hf.val 3 148 _ rfl (by kernel_rfl) (by kernel_rfl) (by kernel_rfl); clear hd hf; intro K hK; go_simp; go_at_call 13; go_split_ands; (with_reducible refine Calls.mono (Mul_f d0 d1 (by decide) (by decide)) ?_); rintro e w2 ⟨x, rfl, e2, hx⟩; exact hK.out _ _ e2 hx (FreshIf.no rfl) }) ?_
    refine RgAll.cons (by { (with_reducible refine RgL.mkG 1 146 true (by rfl) (by kernel_rfl) (by kernel_rfl) (by kernel_rfl) (by kernel_rfl) (by kernel_rfl) ?_ ?_); (focus (intro _ _ h; exact h)); intro v a w' hE hd hf; have ev0 := hf.lit 12 (.pointer (some ⟨g12, 0, none⟩)) (by kernel_rfl) (by kernel_rfl); obtain ⟨s8, a8, n8, c8, b8, h8⟩ := (S.mono hE).at 12 (g12) (IsI 12 (za % zb)) rfl; have L0 := b8.c0; have L1 := b8.c1; clear hd hf; intro K hK; go_simp; exact hK.out _ _ (Ext.refl _) h8 (FreshIf.no rfl) }) ?_
    refine RgAll.cons (by { (with_reducible refine RgL.mkG 1 146 true (by rfl) (by kernel_rfl) (by kernel_rfl) (by kernel_rfl) (by kernel_rfl) (by kernel_rfl) ?_ ?_); (focus (intro _ _ h; exact h)); intro v a w' hE hd hf; have d0 : (IsI 24 ((za / zb) * zb)) (v 4) w' := hd 4 (by kernel_rfl); have ev0 := hf.val 4 149 _ rfl (by kernel_rfl) (by kernel_rfl) (by kernel_rfl); have d1 : (IsI 12 (za % zb)) (v 5) w' := hd 5 (by kernel_rfl); have ev1 := hf.val 5 150 _ rfl (by kernel_rfl) (by kernel_rfl) (by kernel_rfl); clear hd hf; intro K hK; go_simp; go_at_call 12; go_split_ands; (with_reducible refine Calls.mono (Add_f d0 d1 (by decide) (by decide)) ?_); rintro e w2 ⟨x, rfl, e2, hx⟩; exact hK.out _ _ e2 hx (FreshIf.no rfl) }) ?_
    refine RgAll.cons (by { (with_reducible refine RgL.mkG 1 146 true (by rfl) (by kernel_rfl) (by kernel_rfl) (by kernel_rfl) (by kernel_rfl) (by kernel_rfl) ?_ ?_); (focus (intro _ _ h; exact h)); intro v a w' hE hd hf; have ev0 := hf.lit 8 (.pointer (some ⟨g8, 0, none⟩)) (by kernel_rfl) (by kernel_rfl); obtain ⟨s8, a8, n8, c8, b8, h8⟩ := (S.mono hE).at 16 (g8) (IsI 12 za) rfl; have L0 := b8.c0; have L1 := b8.c1; clear hd hf; intro K hK; go_simp; exact hK.out _ _ (Ext.refl _) h8 (FreshIf.no rfl) }) ?_
    refine RgAll.cons (by { (with_reducible refine RgL.mkG 1 146 true (by rfl) (by kernel_rfl) (by kernel_rfl) (by kernel_rfl) (by kernel_rfl) (by kernel_rfl) ?_ ?_); (focus (intro _ _ h; exact h)); intro v a w' hE hd hf; have d0 : (IsI 25 (((za / zb) * zb) + (za % zb))) (v 6) w' := hd 6 (by kernel_rfl); have ev0 := hf.val 6 151 _ rfl (by kernel_rfl) (by kernel_rfl) (by kernel_rfl); have d1 : (IsI 12 za) (v 7) w' := hd 7 (by kernel_rfl); have ev1 := hf.val 7 152 _ rfl (by kernel_rfl) (by kernel_rfl) (by kernel_rfl); clear hd hf; intro K hK; go_simp; go_at_call 14; go_split_ands; (with_reducible refine Calls.mono (Same_t d0 d1 (H1.out) (by decide)) ?_); rintro e w2 ⟨x, rfl, e2, hx⟩; exact hK.out _ _ e2 hx (FreshIf.no rfl) }) ?_
    refine RgAll.cons (by { (with_reducible refine RgL.mk (by rfl) ?_); intro v a w' hE hd hf; have d0 : v 1 = .bool true := hd 1 (by kernel_rfl); have ev0 := hf.val 1 146 _ d0 (by kernel_rfl) (by kernel_rfl) (by kernel_rfl); clear d0; have d1 : v 8 = .bool true := hd 8 (by kernel_rfl); have ev1 := hf.val 8 153 _ d1 (by kernel_rfl) (by kernel_rfl) (by kernel_rfl); clear d1; clear hd hf; intro K hK; go_simp; exact hK.out _ _ (Ext.refl _) rfl (FreshIf.no rfl) }) ?_
    refine RgAll.cons (by { (with_reducible refine RgL.mk (by rfl) ?_); intro v a w' hE hd hf; have d0 : v 9 = .bool true := hd 9 (by kernel_rfl); have ev0 := hf.val 9 154 _ d0 (by kernel_rfl) (by kernel_rfl) (by kernel_rfl); clear d0; clear hd hf; intro K hK; go_simp; exact hK.out _ _ (Ext.refl _) rfl (FreshIf.no rfl) }) ?_
    refine RgAll.cons (by { (with_reducible refine RgL.mkG 10 155 true (by rfl) (by kernel_rfl) (by kernel_rfl) (by kernel_rfl) (by kernel_rfl) (by kernel_rfl) ?_ ?_); (focus (intro _ _ h; exact h)); intro v a w' hE hd hf; have ev0 := hf.lit 12 (.pointer (some ⟨g12, 0, none⟩)) (by kernel_rfl) (by kernel_rfl); obtain ⟨s8, a8, n8, c8, b8, h8⟩ := (S.mono hE).at 12 (g12) (IsI 12 (za % zb)) rfl; have L0 := b8.c0; have L1 := b8.c1; clear hd hf; intro K hK; go_simp; exact hK.out _ _ (Ext.refl _) h8 (FreshIf.no rfl) }) ?_
    refine RgAll.cons (by { (with_reducible refine RgL.mkG 10 155 true (by rfl) (by kernel_rfl) (by kernel_rfl) (by kernel_rfl) (by kernel_rfl) (by kernel_rfl) ?_ ?_); (focus (intro _ _ h; exact h)); intro v a w' hE hd hf; have d0 : (IsI 12 (za % zb)) (v 11) w' := hd 11 (by kernel_rfl); have ev0 := hf.val 11 156 _ rfl (by kernel_rfl) (by kernel_rfl) (by kernel_rfl); clear hd hf; intro K hK; go_simp; go_at_call 15; go_split_ands; (with_reducible refine Calls.mono (Calls.mono (Sign_f d0) fun _ _ h => h.int (H2.out)) ?_); rintro e w2 ⟨x, rfl, e2, hx⟩; exact hK.out _ _ e2 hx (FreshIf.no rfl) }) ?_
    refine RgAll.cons (by { (with_reducible refine RgL.mkG 10 155 true (by rfl) (by kernel_rfl) (by kernel_rfl) (by kernel_rfl) (by kernel_rfl) (by kernel_rfl) ?_ ?_); (focus (intro _ _ h; exact h)); intro v a w' hE hd hf; have d0 : v 12 = .int .i64 sg := hd 12 (by kernel_rfl); have ev0 := hf.val 12 157 _ d0 (by kernel_rfl) (by kernel_rfl) (by kernel_rfl); clear d0; have hs9 := H3.out; clear hd hf; intro K hK; go_simp; exact hK.out _ _ (Ext.refl _) rfl (FreshIf.no rfl) }) ?_
    refine RgAll.cons (by { (with_reducible refine RgL.mk (by rfl) ?_); intro v a w' hE hd hf; have d0 : v 10 = .bool true := hd 10 (by kernel_rfl); have ev0 := hf.val 10 155 _ d0 (by kernel_rfl) (by kernel_rfl) (by kernel_rfl); clear d0; have d1 : v 13 = .bool true := hd 13 (by kernel_rfl); have ev1 := hf.val 13 158 _ d1 (by kernel_rfl) (by kernel_rfl) (by kernel_rfl); clear d1; clear hd hf; intro K hK; go_simp; exact hK.out _ _ (Ext.refl _) rfl (FreshIf.no rfl) }) ?_
    refine RgAll.cons (by { (with_reducible refine RgL.mk (by rfl) ?_); intro v a w' hE hd hf; have d0 : v 14 = .bool true := hd 14 (by kernel_rfl); have ev0 := hf.val 14 159 _ d0 (by kernel_rfl) (by kernel_rfl) (by kernel_rfl); clear d0; clear hd hf; intro K hK; go_simp; exact hK.out _ _ (Ext.refl _) rfl (FreshIf.no rfl) }) ?_
    refine RgAll.cons (by { (with_reducible refine RgL.mkG 15 160 true (by rfl) (by kernel_rfl) (by kernel_rfl) (by kernel_rfl) (by kernel_rfl) (by kernel_rfl) ?_ ?_); (focus (intro _ _ h; exact h)); intro v a w' hE hd hf; have ev0 := hf.lit 12 (.pointer (some ⟨g12, 0, none⟩)) (by kernel_rfl) (by kernel_rfl); obtain ⟨s8, a8, n8, c8, b8, h8⟩ := (S.mono hE).at 12 (g12) (IsI 12 (za % zb)) rfl; have L0 := b8.c0; have L1 := b8.c1; clear hd hf; intro K hK; go_simp; exact hK.out _ _ (Ext.refl _) h8 (FreshIf.no rfl) }) ?_
    refine RgAll.cons (by { (with_reducible refine RgL.mkG 15 160 true (by rfl) (by kernel_rfl) (by kernel_rfl) (by kernel_rfl) (by kernel_rfl) (by kernel_rfl) ?_ ?_); (focus (intro _ _ h; exact h)); intro v a w' hE hd hf; have ev0 := hf.lit 9 (.pointer (some ⟨g9, 0, none⟩)) (by kernel_rfl) (by kernel_rfl); obtain ⟨s8, a8, n8, c8, b8, h8⟩ := (S.mono hE).at 15 (g9) (IsI 12 zb) rfl; have L0 := b8.c0; have L1 := b8.c1; clear hd hf; intro K hK; go_simp; exact hK.out _ _ (Ext.refl _) h8 (FreshIf.no rfl) }) ?_
    refine RgAll.cons (by { (with_reducible refine RgL.mkG 15 160 true (by rfl) (by kernel_rfl) (by kernel_rfl) (by kernel_rfl) (by kernel_rfl) (by kernel_rfl) ?_ ?_); (focus (intro _ _ h; exact h)); intro v a w' hE hd hf; have d0 : (IsI 12 zb) (v 17) w' := hd 17 (by kernel_rfl); have ev0 := hf.val 17 162 _ rfl (by kernel_rfl) (by kernel_rfl) (by kernel_rfl); clear hd hf; intro K hK; go_simp; go_at_call 17; go_split_ands; (with_reducible refine Calls.mono (Abs_f d0) ?_); rintro e w2 ⟨x, rfl, e2, hx⟩; exact hK.out _ _ e2 hx (FreshIf.no rfl) }) ?_
    refine RgAll.cons (by { (with_reducible refine RgL.mkG 15 160 true (by rfl) (by kernel_rfl) (by kernel_rfl) (by kernel_rfl) (by kernel_rfl) (by kernel_rfl) ?_ ?_); (focus (intro _ _ h; exact h)); intro v a w' hE hd hf; have d0 : (IsI 12 (za % zb)) (v 16) w' := hd 16 (by kernel_rfl); have ev0 := hf.val 16 161 _ rfl (by kernel_rfl) (by kernel_rfl) (by kernel_rfl); have d1 : (IsI 12 zb.natAbs) (v 18) w' := hd 18 (by kernel_rfl); have ev1 := hf.val 18 163 _ rfl (by kernel_rfl) (by kernel_rfl) (by kernel_rfl); clear hd hf; intro K hK; go_simp; go_at_call 16; go_split_ands; (with_reducible refine Calls.mono (Calls.mono (Cmp_f d0 d1 (by decide) (by decide)) fun _ _ h => h.int (H4.out)) ?_); rintro e w2 ⟨x, rfl, e2, hx⟩; exact hK.out _ _ e2 hx (FreshIf.no rfl) }) ?_
    refine RgAll.cons (by { (with_reducible refine RgL.mkG 15 160 true (by rfl) (by kernel_rfl) (by kernel_rfl) (by kernel_rfl) (by kernel_rfl) (by kernel_rfl) ?_ ?_); (focus (intro _ _ h; exact h)); intro v a w' hE hd hf; have d0 : v 19 = .int .i64 (-1) := hd 19 (by kernel_rfl); have ev0 := hf.val 19 164 _ d0 (by kernel_rfl) (by kernel_rfl) (by kernel_rfl); clear d0; clear hd hf; intro K hK; go_simp; exact hK.out _ _ (Ext.refl _) rfl (FreshIf.no rfl) }) ?_
    refine RgAll.cons (by { (with_reducible refine RgL.mk (by rfl) ?_); intro v a w' hE hd hf; have d0 : v 15 = .bool true := hd 15 (by kernel_rfl); have ev0 := hf.val 15 160 _ d0 (by kernel_rfl) (by kernel_rfl) (by kernel_rfl); clear d0; have d1 : v 20 = .bool true := hd 20 (by kernel_rfl); have ev1 := hf.val 20 165 _ d1 (by kernel_rfl) (by kernel_rfl) (by kernel_rfl); clear d1; clear hd hf; intro K hK; go_simp; exact hK.out _ _ (Ext.refl _) rfl (FreshIf.no rfl) }) ?_
    refine RgAll.cons (by { (with_reducible refine RgL.mk (by rfl) ?_); intro v a w' hE hd hf; have d0 : v 21 = .bool true := hd 21 (by kernel_rfl); have ev0 := hf.val 21 166 _ d0 (by kernel_rfl) (by kernel_rfl) (by kernel_rfl); clear d0; clear hd hf; intro K hK; go_simp; exact hK.out _ _ (Ext.refl _) rfl (FreshIf.no rfl) }) ?_
    refine RgAll.cons (by { (with_reducible refine RgL.mkG 22 167 true (by rfl) (by kernel_rfl) (by kernel_rfl) (by kernel_rfl) (by kernel_rfl) (by kernel_rfl) ?_ ?_); (focus (intro _ _ h; exact h)); intro v a w' hE hd hf; have ev0 := hf.lit 18 (.pointer (some ⟨g18, 0, none⟩)) (by kernel_rfl) (by kernel_rfl); obtain ⟨s8, a8, n8, c8, b8, h8⟩ := (S.mono hE).at 8 (g18) (IsI 12 ((za + zc) % zb)) rfl; have L0 := b8.c0; have L1 := b8.c1; clear hd hf; intro K hK; go_simp; exact hK.out _ _ (Ext.refl _) h8 (FreshIf.no rfl) }) ?_
    refine RgAll.cons (by { (with_reducible refine RgL.mkG 22 167 true (by rfl) (by kernel_rfl) (by kernel_rfl) (by kernel_rfl) (by kernel_rfl) (by kernel_rfl) ?_ ?_); (focus (intro _ _ h; exact h)); intro v a w' hE hd hf; have ev0 := hf.lit 21 (.pointer (some ⟨g21, 0, none⟩)) (by kernel_rfl) (by kernel_rfl); obtain ⟨s8, a8, n8, c8, b8, h8⟩ := (S.mono hE).at 6 (g21) (IsI 12 (((za % zb) + (zc % zb)) % zb)) rfl; have L0 := b8.c0; have L1 := b8.c1; clear hd hf; intro K hK; go_simp; exact hK.out _ _ (Ext.refl _) h8 (FreshIf.no rfl) }) ?_
    refine RgAll.cons (by { (with_reducible refine RgL.mkG 22 167 true (by rfl) (by kernel_rfl) (by kernel_rfl) (by kernel_rfl) (by kernel_rfl) (by kernel_rfl) ?_ ?_); (focus (intro _ _ h; exact h)); intro v a w' hE hd hf; have d0 : (IsI 12 ((za + zc) % zb)) (v 23) w' := hd 23 (by kernel_rfl); have ev0 := hf.val 23 168 _ rfl (by kernel_rfl) (by kernel_rfl) (by kernel_rfl); have d1 : (IsI 12 (((za % zb) + (zc % zb)) % zb)) (v 24) w' := hd 24 (by kernel_rfl); have ev1 := hf.val 24 169 _ rfl (by kernel_rfl) (by kernel_rfl) (by kernel_rfl); clear hd hf; intro K hK; go_simp; go_at_call 14; go_split_ands; (with_reducible refine Calls.mono (Same_t d0 d1 (H5.out) (by decide)) ?_); rintro e w2 ⟨x, rfl, e2, hx⟩; exact hK.out _ _ e2 hx (FreshIf.no rfl) }) ?_
    refine RgAll.cons (by { (with_reducible refine RgL.mk (by rfl) ?_); intro v a w' hE hd hf; have d0 : v 22 = .bool true := hd 22 (by kernel_rfl); have ev0 := hf.val 22 167 _ d0 (by kernel_rfl) (by kernel_rfl) (by kernel_rfl); clear d0; have d1 : v 25 = .bool true := hd 25 (by kernel_rfl); have ev1 := hf.val 25 170 _ d1 (by kernel_rfl) (by kernel_rfl) (by kernel_rfl); clear d1; clear hd hf; intro K hK; go_simp; exact hK.out _ _ (Ext.refl _) rfl (FreshIf.no rfl) }) ?_
    refine RgAll.cons (by { (with_reducible refine RgL.mk (by rfl) ?_); intro v a w' hE hd hf; have d0 : v 26 = .bool true := hd 26 (by kernel_rfl); have ev0 := hf.val 26 171 _ d0 (by kernel_rfl) (by kernel_rfl) (by kernel_rfl); clear d0; clear hd hf; intro K hK; go_simp; exact hK.out _ _ (Ext.refl _) rfl (FreshIf.no rfl) }) ?_
    refine RgAll.cons (by { (with_reducible refine RgL.mkG 27 172 true (by rfl) (by kernel_rfl) (by kernel_rfl) (by kernel_rfl) (by kernel_rfl) (by kernel_rfl) ?_ ?_); (focus (intro _ _ h; exact h)); intro v a w' hE hd hf; have ev0 := hf.lit 24 (.pointer (some ⟨g24, 0, none⟩)) (by kernel_rfl) (by kernel_rfl); obtain ⟨s8, a8, n8, c8, b8, h8⟩ := (S.mono hE).at 4 (g24) (IsI 12 ((za * zc) % zb)) rfl; have L0 := b8.c0; have L1 := b8.c1; clear hd hf; intro K hK; go_simp; exact hK.out _ _ (Ext.refl _) h8 (FreshIf.no rfl) }) ?_
    refine RgAll.cons (by { (with_reducible refine RgL.mkG 27 172 true (by rfl) (by kernel_rfl) (by kernel_rfl) (by kernel_rfl) (by kernel_rfl) (by kernel_rfl) ?_ ?_); (focus (intro _ _ h; exact h)); intro v a w' hE hd hf; have ev0 := hf.lit 27 (.pointer (some ⟨g27, 0, none⟩)) (by kernel_rfl) (by kernel_rfl); obtain ⟨s8, a8, n8, c8, b8, h8⟩ := (S.mono hE).at 2 (g27) (IsI 12 (((za % zb) * (zc % zb)) % zb)) rfl; have L0 := b8.c0; have L1 := b8.c1; clear hd hf; intro K hK; go_simp; exact hK.out _ _ (Ext.refl _) h8 (FreshIf.no rfl) }) ?_
    refine RgAll.cons (by { (with_reducible refine RgL.mkG 27 172 true (by rfl) (by kernel_rfl) (by kernel_rfl) (by kernel_rfl) (by kernel_rfl) (by kernel_rfl) ?_ ?_); (focus (intro _ _ h; exact h)); intro v a w' hE hd hf; have d0 : (IsI 12 ((za * zc) % zb)) (v 28) w' := hd 28 (by kernel_rfl); have ev0 := hf.val 28 173 _ rfl (by kernel_rfl) (by kernel_rfl) (by kernel_rfl); have d1 : (IsI 12 (((za % zb) * (zc % zb)) % zb)) (v 29) w' := hd 29 (by kernel_rfl); have ev1 := hf.val 29 174 _ rfl (by kernel_rfl) (by kernel_rfl) (by kernel_rfl); clear hd hf; intro K hK; go_simp; go_at_call 14; go_split_ands; (with_reducible refine Calls.mono (Same_t d0 d1 (H6.out) (by decide)) ?_); rintro e w2 ⟨x, rfl, e2, hx⟩; exact hK.out _ _ e2 hx (FreshIf.no rfl) }) ?_
    refine RgAll.cons (by { (with_reducible refine RgL.mk (by rfl) ?_); intro v a w' hE hd hf; have d0 : v 27 = .bool true := hd 27 (by kernel_rfl); have ev0 := hf.val 27 172 _ d0 (by kernel_rfl) (by kernel_rfl) (by kernel_rfl); clear d0; have d1 : v 30 = .bool true := hd 30 (by kernel_rfl); have ev1 := hf.val 30 175 _ d1 (by kernel_rfl) (by kernel_rfl) (by kernel_rfl); clear d1; clear hd hf; intro K hK; go_simp; exact hK.out _ _ (Ext.refl _) rfl (FreshIf.no rfl) }) ?_
    refine RgAll.cons (by { (with_reducible refine RgL.mk (by rfl) ?_); intro v a w' hE hd hf; have d0 : v 31 = .bool true := hd 31 (by kernel_rfl); have ev0 := hf.val 31 176 _ d0 (by kernel_rfl) (by kernel_rfl) (by kernel_rfl); clear d0; clear hd hf; intro K hK; go_simp; exact hK.out _ _ (Ext.refl _) rfl (FreshIf.no rfl) }) ?_
    refine RgAll.cons (by { (with_reducible refine RgL.mkG 32 177 true (by rfl) (by kernel_rfl) (by kernel_rfl) (by kernel_rfl) (by kernel_rfl) (by kernel_rfl) ?_ ?_); (focus (intro _ _ h; exact h)); intro v a w' hE hd hf; have ev0 := hf.lit 29 (.pointer (some ⟨g29, 0, none⟩)) (by kernel_rfl) (by kernel_rfl); obtain ⟨s8, a8, n8, c8, b8, h8⟩ := (S.mono hE).at 1 (g29) (IsI 24 ((za * zb) / zb)) rfl; have L0 := b8.c0; have L1 := b8.c1; clear hd hf; intro K hK; go_simp; exact hK.out _ _ (Ext.refl _) h8 (FreshIf.no rfl) }) ?_
    refine RgAll.cons (by { (with_reducible refine RgL.mkG 32 177 true (by rfl) (by kernel_rfl) (by kernel_rfl) (by kernel_rfl) (by kernel_rfl) (by kernel_rfl) ?_ ?_); (focus (intro _ _ h; exact h)); intro v a w' hE hd hf; have ev0 := hf.lit 8 (.pointer (some ⟨g8, 0, none⟩)) (by kernel_rfl) (by kernel_rfl); obtain ⟨s8, a8, n8, c8, b8, h8⟩ := (S.mono hE).at 16 (g8) (IsI 12 za) rfl; have L0 := b8.c0; have L1 := b8.c1; clear hd hf; intro K hK; go_simp; exact hK.out _ _ (Ext.refl _) h8 (FreshIf.no rfl) }) ?_
    refine RgAll.cons (by { (with_reducible refine RgL.mkG 32 177 true (by rfl) (by kernel_rfl) (by kernel_rfl) (by kernel_rfl) (by kernel_rfl) (by kernel_rfl) ?_ ?_); (focus (intro _ _ h; exact h)); intro v a w' hE hd hf; have d0 : (IsI 24 ((za * zb) / zb)) (v 33) w' := hd 33 (by kernel_rfl); have ev0 := hf.val 33 178 _ rfl (by kernel_rfl) (by kernel_rfl) (by kernel_rfl); have d1 : (IsI 12 za) (v 34) w' := hd 34 (by kernel_rfl); have ev1 := hf.val 34 179 _ rfl (by kernel_rfl) (by kernel_rfl) (by kernel_rfl); clear hd hf; intro K hK; go_simp; go_at_call 14; go_split_ands; (with_reducible refine Calls.mono (Same_t d0 d1 (H7.out) (by decide)) ?_); rintro e w2 ⟨x, rfl, e2, hx⟩; exact hK.out _ _ e2 hx (FreshIf.no rfl) }) ?_
    refine RgAll.cons (by { (with_reducible refine RgL.mk (by rfl) ?_); intro v a w' hE hd hf; have d0 : v 32 = .bool true := hd 32 (by kernel_rfl); have ev0 := hf.val 32 177 _ d0 (by kernel_rfl) (by kernel_rfl) (by kernel_rfl); clear d0; have d1 : v 35 = .bool true := hd 35 (by kernel_rfl); have ev1 := hf.val 35 180 _ d1 (by kernel_rfl) (by kernel_rfl) (by kernel_rfl); clear d1; clear hd hf; intro K hK; go_simp; exact hK.out _ _ (Ext.refl _) rfl (FreshIf.no rfl) }) ?_
    refine RgAll.cons (by { (with_reducible refine RgL.mk (by rfl) ?_); intro v a w' hE hd hf; have d0 : v 36 = .bool true := hd 36 (by kernel_rfl); have ev0 := hf.val 36 181 _ d0 (by kernel_rfl) (by kernel_rfl) (by kernel_rfl); clear d0; clear hd hf; intro K hK; go_simp; exact hK.out _ _ (Ext.refl _) rfl (FreshIf.no rfl) }) ?_
    refine RgAll.cons (by { (with_reducible refine RgL.mkG 37 182 true (by rfl) (by kernel_rfl) (by kernel_rfl) (by kernel_rfl) (by kernel_rfl) (by kernel_rfl) ?_ ?_); (focus (intro _ _ h; exact h)); intro v a w' hE hd hf; have ev0 := hf.lit 30 (.pointer (some ⟨g30, 0, none⟩)) (by kernel_rfl) (by kernel_rfl); clear hd hf; intro K hK; go_simp; exact hK.out _ _ (Ext.refl _) rfl (FreshIf.no rfl) }) ?_
    refine RgAll.cons (by { (with_reducible refine RgL.mkG 37 182 true (by rfl) (by kernel_rfl) (by kernel_rfl) (by kernel_rfl) (by kernel_rfl) (by kernel_rfl) ?_ ?_); (focus (intro _ _ h; exact h)); intro v a w' hE hd hf; have d0 : v 38 = .pointer (some ⟨g30, 1, none⟩) := hd 38 (by kernel_rfl); have ev0 := hf.val 38 183 _ d0 (by kernel_rfl) (by kernel_rfl) (by kernel_rfl); clear d0; obtain ⟨s8, a8, n8, c8, b8, h8⟩ := (S.mono hE).at 0 (g30) (IsI 12 ((za * zb) % zb)) rfl; have L0 := b8.c0; have L1 := b8.c1; obtain ⟨s9, a9, n9, c9, k9, h9⟩ := h8; injection k9 with k9; simp only [Array.mk.injEq, List.cons.injEq, Value.bool.injEq, Value.slice.injEq, and_true] at k9; obtain ⟨rfl, rfl, rfl, rfl⟩ := k9; clear hd hf; intro K hK; go_simp; exact hK.out _ _ (Ext.refl _) ⟨_, _, _, _, rfl, h9⟩ (FreshIf.no rfl) }) ?_
    refine RgAll.cons (by { (with_reducible refine RgL.mkG 37 182 true (by rfl) (by kernel_rfl) (by kernel_rfl) (by kernel_rfl) (by kernel_rfl) (by kernel_rfl) ?_ ?_); (focus (intro _ _ h; exact h)); intro v a w' hE hd hf; have d0 : (IsMag 12 ((za * zb) % zb)) (v 39) w' := hd 39 (by kernel_rfl); obtain ⟨s9, a9, n9, c9, z0, h9⟩ := d0; have ev0 := hf.val 39 184 _ z0 (by kernel_rfl) (by kernel_rfl) (by kernel_rfl); clear z0; obtain rfl : n9 = 0 := h9.zero_iff.1 (H8.out); clear hd hf; intro K hK; go_simp; exact hK.out _ _ (Ext.refl _) rfl (FreshIf.no rfl) }) ?_
    refine RgAll.cons (by { (with_reducible refine RgL.mkG 37 182 true (by rfl) (by kernel_rfl) (by kernel_rfl) (by kernel_rfl) (by kernel_rfl) (by kernel_rfl) ?_ ?_); (focus (intro _ _ h; exact h)); intro v a w' hE hd hf; have d0 : v 40 = .int .i64 0 := hd 40 (by kernel_rfl); have ev0 := hf.val 40 185 _ d0 (by kernel_rfl) (by kernel_rfl) (by kernel_rfl); clear d0; clear hd hf; intro K hK; go_simp; exact hK.out _ _ (Ext.refl _) rfl (FreshIf.no rfl) }) ?_
    refine RgAll.cons (by { (with_reducible refine RgL.mk (by rfl) ?_); intro v a w' hE hd hf; have d0 : v 37 = .bool true := hd 37 (by kernel_rfl); have ev0 := hf.val 37 182 _ d0 (by kernel_rfl) (by kernel_rfl) (by kernel_rfl); clear d0; have d1 : v 41 = .bool true := hd 41 (by kernel_rfl); have ev1 := hf.val 41 186 _ d1 (by kernel_rfl) (by kernel_rfl) (by kernel_rfl); clear d1; clear hd hf; intro K hK; go_simp; exact hK.out _ _ (Ext.refl _) rfl (FreshIf.no rfl) }) ?_
    refine RgAll.cons (by { (with_reducible refine RgL.mk (by rfl) ?_); intro v a w' hE hd hf; have d0 : v 42 = .bool true := hd 42 (by kernel_rfl); have ev0 := hf.val 42 187 _ d0 (by kernel_rfl) (by kernel_rfl) (by kernel_rfl); clear d0; clear hd hf; intro K hK; go_simp; exact hK.out _ _ (Ext.refl _) rfl (FreshIf.no rfl) }) ?_
    exact RgAll.nil
  intro v W30 e1 hΦ _
  replace S := S.mono e1
  have v43 : v 43 = .bool true := hΦ 43 (by decide)
  simp only [layL, Act.put, List.setIfInBounds_toArray, List.set_cons_zero, List.set_cons_succ, Nat.reduceAdd]
  rw [v43]
  clear v43
  clear hΦ
  clear e1
  refine wpAny_done (by kernel_rfl) ?_ _
  go_wp2_with fail
  exact bodyPost_ret (v := .bool true) (by simp [results, Tryd.results3, go_sem]) rfl (⟨_, rfl, S.ext, rfl⟩)

theorem Divides_c (w : World) (s1 s2 s3 : Bool) (a1 a2 a3 : Option Addr) (n1 n2 n3 c1 c2 c3 : Nat) (x1 x2 x3 : List Nat) (h1 : Wd w a1 n1 c1 x1) (h2 : Wd w a2 n2 c2 x2) (h3 : Wd w a3 n3 c3 x3) (ht : Tab w) :
    Calls Tryd.prog 3 #[.agg #[.bool s1, .slice a1 n1 c1], .agg #[.bool s2, .slice a2 n2 c2], .agg #[.bool s3, .slice a3 n3 c3]] w (Ret w (IsV (.bool true))) := by
  by_cases hz : rawZ s2 x2 12 = 0
  · exact Divides_0 w s1 s2 s3 a1 a2 a3 n1 n2 n3 c1 c2 c3 x1 x2 x3 h1 h2 h3 ht _ _ _ rfl rfl rfl hz
  · exact Divides_1 w s1 s2 s3 a1 a2 a3 n1 n2 n3 c1 c2 c3 x1 x2 x3 h1 h2 h3 ht _ _ _ rfl rfl rfl hz
end Go.Proofs.YtpflfagjkmeeiaaDoor
namespace Go.Proofs.YtpflfagjkmeeiaaDoor
open Go Go.RowKit Go.ChangeShapes Go.WideShapes Go.ChangeAt

set_option maxRecDepth 100000 in
theorem integerDivides_lifted (os : Os) (started : os.Started) (H : Type) (enc : TypeId × Value → H) :
    ReturnsInHanded {} Tryd.checked os 3 .any (fun w args => (Rows.integerDividesSpec.pre enc Tryd.prog Tryd.f3 [] false w args ∧ laidMetH Tryd.prog laid3 w) ∧ sizedMet enc Tryd.prog Tryd.f3 (OpenSpec.ofChange Rows.integerDividesSpec) false w args)
      (Rows.integerDividesSpec.post enc Tryd.prog Tryd.f3 false true false false) := by
  refine returnsInHanded_of_change_and (C := Tryd.checked) (X := fun w _ => laidMetH Tryd.prog laid3 w) (fun _ _ _ hh h => h.of_heap hh) own started (by kernel_rfl) Tryd.func3
    (ChangeSpec.witness_shaped (enc := enc) (C := Tryd.checked) (os := os) (X := fun w _ => laidMetH Tryd.prog laid3 w) false (World.doorLaid Tryd.prog 2000 os) #[.agg #[.bool false, .slice none 0 0], .agg #[.bool false, .slice none 0 0], .agg #[.bool false, .slice none 0 0]] 8 rfl (World.shaped_of_RefB (by kernel_rfl) (by kernel_rfl)) (by kernel_rfl) (by kernel_rfl) (by kernel_rfl) (door_met os _)) ?_
  intro W base args ds gs before hval0 hW _ _ hL _
  have hval : ∀ (j : Nat) t v, Tryd.f3.params[j]? = some t → args[j]? = some v → Value.okWide Tryd.prog W .any base t v := hval0
  have hW' := hW
  obtain ⟨p, q, hA0, hV, rfl, hfz, hnd⟩ := hW
  have hA : DataW.TrodAll enc Tryd.prog W 0 (fun _ => true) true Tryd.f3.params.toList args.toList ds p := hA0
  rw [Tryd.params3] at hA hval
  obtain ⟨v1, v2, v3, d1, d2, d3, p1, p2, p3, rfl, rfl, rfl, k1, k2, k3⟩ := trodAll_three hA
  obtain ⟨rfl, rfl⟩ := trodVars_none hV
  obtain ⟨s1, a1, n1, c1, x1, rfl, w1, r1⟩ := raw_open (hval 0 24 v1 rfl rfl) k1
  obtain ⟨s2, a2, n2, c2, x2, rfl, w2, r2⟩ := raw_open (hval 1 24 v2 rfl rfl) k2
  obtain ⟨s3, a3, n3, c3, x3, rfl, w3, r3⟩ := raw_open (hval 2 24 v3 rfl rfl) k3
  clear hA0 hval0
  refine (Divides_c W s1 s2 s3 a1 a2 a3 n1 n2 n3 c1 c2 c3 x1 x2 x3 w1 w2 w3 (tab_of_laid hL)).mono fun e W' ⟨x, he, hb, hx⟩ => ?_
  have hx : x = .bool true := hx
  subst he; subst hx
  refine ⟨_, rfl, post_of_below (pa := p1 ++ (p2 ++ p3)) (pv := []) hW' (fun _ _ _ => trodAll_mk1 (shut_bool Tryd.underlying4 true)) (fun sp hsp => ?_) (fun _ _ => rfl) (by simp) hb (ok_one (by kernel_rfl) rfl (okWide_bool_mk Tryd.underlying4 _))⟩
  rw [Tryd.params3]
  exact trodAll_mk3 (r1 W' sp hb fun q hq => hsp q (by simp [hq])) (r2 W' sp hb fun q hq => hsp q (by simp [hq])) (r3 W' sp hb fun q hq => hsp q (by simp [hq]))

theorem integerDivides_row : Rows.IntegerDividesSaid :=
  OpenClaim.holds_of_wide 3 Tryd.f3 rfl rfl rfl rfl rfl rfl rfl ⟨rfl, rfl, rfl, rfl, rfl⟩ rfl rfl rfl rfl rfl (by kernel_rfl) Tryd.func3 (by kernel_rfl)
    (of_decide_eq_true (by kernel_rfl)) (by unfold Func.isWrapper; first | (rw [if_pos (by decide +kernel)]; kernel_rfl) | (rw [if_neg (by decide +kernel)]; exact ⟨rfl, rfl⟩))
    (fun os started H enc _ => integerDivides_lifted os started H enc)

set_option maxRecDepth 100000 in
/-- The tied card. -/
theorem integerDivides_holds : Rows.IntegerDividesCardSaid :=
  Claim7.holds_tied_plain_at .later [] [.data, .data, .data] true Rows.integerDividesCard.stood.harness false
    integerDivides_row (fun _ h => by cases h) (by kernel_rfl) (fun _ h => by cases h) integerDivides_row_tie rfl ⟨rfl, rfl⟩ (by kernel_rfl) rfl
    (fun f fn hf hfn => by
      obtain rfl : f = 3 := Option.some.inj ((show Tryd.prog.funcNamed "algorist/algoristlaw01.IntegerDivides" = some 3 by kernel_rfl).symm.trans hf) |>.symm
      obtain rfl : fn = Tryd.f3 := (Option.some.inj (Tryd.func3.symm.trans hfn)).symm
      refine ⟨by kernel_rfl, fun j t ht => ?_⟩
      rw [Tryd.params3] at ht
      have h3 : t = 24 := by
        rcases j with _ | _ | _ | j
        · simpa using ht.symm
        · simpa using ht.symm
        · simpa using ht.symm
        · simp at ht
      subst h3
      exact (show Tryd.prog.wantsStandIn 24 = false by kernel_rfl))
    (by kernel_rfl)
#print axioms integerDivides_holds
end Go.Proofs.YtpflfagjkmeeiaaDoor
