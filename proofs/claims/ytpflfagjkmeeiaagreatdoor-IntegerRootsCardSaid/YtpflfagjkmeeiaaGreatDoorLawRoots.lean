/-
  The statement IntegerRoots: for every description of an integer and all numbers the law answers true, and the arguments read behind the call as they read before. The listed package variables hold what the program's text lays (the card ties them).
-/
import Derived.Test.YtpflfagjkmeeiaaGreatDoorEx
import Derived.Test.YtpflfagjkmeeiaaGreatDoorRPow
import Derived.Test.YtpflfagjkmeeiaaGreatDoorRead
import Derived.Test.YtpflfagjkmeeiaaGreatDoorTie
import Derived.Test.YtpflfagjkmeeiaaGreatDoorCards
import Derived.SevenTiedAt
namespace Go.Proofs.YtpflfagjkmeeiaaGreatDoor
open Go Go.RowKit

set_option maxRecDepth 100000 in
set_option maxHeartbeats 8000000 in
theorem Roots_err (w : World) (s1 : Bool) (a1 : Option Addr) (n1 c1 : Nat) (x1 : List Nat) (kk nn : Int) (h1 : Wd w a1 n1 c1 x1) (ht : Tab w) (pz : Int) (za zb sz tz cz e i : Int) (ha : rawZ s1 x1 8 = za) (hb : rawZ s1 (x1.take (min x1.length 2)) 2 = zb)
    (hS : ∀ (x : Value) (w : World), IsI 8 za x w → Calls Tryz.prog 29 #[x] w (Ret w (IsT3 (IsI 8 sz) (IsI 8 tz) (IsV (.int .i64 e)))))
    (hS2 : ∀ (x : Value) (w : World), IsI 8 za x w → Calls Tryz.prog 30 #[x] w (Ret w (IsT3 (IsI 8 sz) (IsI 8 tz) (IsV (.int .i64 e)))))
    (hR : ∀ (x : Value) (w : World), IsI 8 za x w → Calls Tryz.prog 31 #[x, .int .i64 kk] w (Ret w (IsT2 (IsI 8 pz) (IsV (.int .i64 1)))))
    (hR2 : ∀ (x : Value) (w : World), IsI 8 za x w → Calls Tryz.prog 32 #[x, .int .i64 kk] w (Ret w (IsT2 (IsI 8 pz) (IsV (.int .i64 1)))))
    (hP : ∀ (x : Value) (w : World), IsI 2 zb x w → Calls Tryz.prog 33 #[x, .int .i64 nn] w (Ret w (IsT2 (IsI 128 cz) (IsV (.int .i64 i)))))
    (hP2 : ∀ (x : Value) (w : World), IsI 2 zb x w → Calls Tryz.prog 34 #[x, .int .i64 nn] w (Ret w (IsT2 (IsI 128 cz) (IsV (.int .i64 i))))) :
    Calls Tryz.prog 4 #[.agg #[.bool s1, .slice a1 n1 c1], .int .i64 kk, .int .i64 nn] w (Ret w (IsV (.bool true))) := by
  obtain ⟨m, hm⟩ : ∃ m, m = min x1.length 2 := ⟨_, rfl⟩
  rw [← hm] at hb
  have Ha := hid ha
  have Hb := hid hb
  have HS := hid hS
  have HS2 := hid hS2
  have HR := hid hR
  have HR2 := hid hR2
  have HP := hid hP
  have HP2 := hid hP2
  have HMI := hid (show min (x1.length : Int) 2 = (m : Int) by omega)
  have HML := hid (show m ≤ x1.length by omega)
  clear ha hb hS hS2 hR hR2 hP hP2 hm
  obtain ⟨W, hW, S⟩ : ∃ W, W = w.alloc (.cells #[.bool s1, .slice a1 n1 c1] 24) ∧ St w W [(w.heap.size, IsR s1 x1)] := ⟨_, rfl, ((St.start w).new' (w.heap.size) (by simp) s1 a1 n1 c1 24 (IsR s1 x1) (IsR.gstb _ _) ⟨_, _, _, rfl, h1⟩)⟩
  clear h1
  go_enter Tryz.func4, Tryz.ntmps4
  go_upto_region 1 with (fail)
  rw [← hW]
  clear hW
  refine wp_region_rgs 2 [some 25, some 7] [IsV (.bool true), IsV (.bool true)] [] (by decide) (by kernel_rfl) (by kernel_rfl) (by kernel_rfl) ?_ ?_ ?_ ?_
  · repeat' (first | exact trivial | exact IsV.stb _ | exact IsW.stb _ | exact IsWk.stb _ _ | exact IsI.stb _ _ | exact IsB.stb _ | exact IsR.stb _ _ | exact IsMag.stb _ _ | exact IsPos.stb | apply IsT3.stb | apply IsT2.stb | apply And.intro)
  · exact (fun _ h => by cases h)
  · refine RgAll.cons (by { (with_reducible refine RgL.mk (by rfl) ?_); intro v a w' hE hd hf; skip; clear hd hf; intro K hK; go_simp; go_at_call 5; go_split_ands; (with_reducible refine Calls.mono (examples_f _ (ht.ext (S.ext.trans hE))) ?_); rintro e w2 ⟨x, rfl, e2, hx⟩; exact hK.out _ _ e2 hx (FreshIf.no rfl) }) ?_
    refine RgAll.cons (by { (with_reducible refine RgL.mk (by rfl) ?_); intro v a w' hE hd hf; have d0 : v 0 = .bool true := hd 0 (by kernel_rfl); have ev0 := hf.val 0 25 _ d0 (by kernel_rfl) (by kernel_rfl) (by kernel_rfl); clear d0; clear hd hf; intro K hK; go_simp; exact hK.out _ _ (Ext.refl _) rfl (FreshIf.no rfl) }) ?_
    exact RgAll.nil
  intro v W1 e1 hΦ _
  replace S := S.mono e1
  have v1 : v 1 = .bool true := hΦ 1 (by decide)
  simp only [layL, Act.put, List.setIfInBounds_toArray, List.set_cons_zero, List.set_cons_succ, Nat.reduceAdd]
  rw [v1]
  clear v1
  clear hΦ
  clear e1
  refine wpList_nil ?_
  go_upto_region 4 with (fail)
  have hl := hid S.lt; have hw := S.ext.size
  refine wp_region_rgs 3 [some 28, some 29, some 8] [IsR s1 x1, IsI 8 za, IsB W1] [2] (by decide) (by kernel_rfl) (by kernel_rfl) (by kernel_rfl) ?_ ?_ ?_ ?_
  · repeat' (first | exact trivial | exact IsV.stb _ | exact IsW.stb _ | exact IsWk.stb _ _ | exact IsI.stb _ _ | exact IsB.stb _ | exact IsR.stb _ _ | exact IsMag.stb _ _ | exact IsPos.stb | apply IsT3.stb | apply IsT2.stb | apply And.intro)
  · intro i hi; simp only [List.mem_cons, List.not_mem_nil, or_false] at hi; subst hi; exact IsB.box _
  · refine RgAll.cons (by { (with_reducible refine RgL.mk (by rfl) ?_); intro v a w' hE hd hf; have ev0 := hf.lit 3 (.pointer (some ⟨w.heap.size, 0, none⟩)) (by kernel_rfl) (by kernel_rfl); obtain ⟨s8, a8, n8, c8, b8, h8⟩ := (S.mono hE).at 0 (w.heap.size) (IsR s1 x1) rfl; have L0 := b8.c0; have L1 := b8.c1; clear hd hf; intro K hK; go_simp; exact hK.out _ _ (Ext.refl _) h8 (FreshIf.no rfl) }) ?_
    refine RgAll.cons (by { (with_reducible refine RgL.mk (by rfl) ?_); intro v a w' hE hd hf; have d0 : (IsR s1 x1) (v 0) w' := hd 0 (by kernel_rfl); have ev0 := hf.val 0 28 _ rfl (by kernel_rfl) (by kernel_rfl) (by kernel_rfl); clear hd hf; intro K hK; go_simp; go_at_call 6; go_split_ands; (with_reducible refine Calls.mono (Calls.mono (Made_f d0 (by decide)) fun _ _ h => h.eqz Ha.out) ?_); rintro e w2 ⟨x, rfl, e2, hx⟩; exact hK.out _ _ e2 hx (FreshIf.no rfl) }) ?_
    refine RgAll.cons (by { (with_reducible refine RgL.mk (by rfl) ?_); intro v a w' hE hd hf; skip; clear hd hf; intro K hK; go_simp; refine hK.out _ _ ((Ext.refl _).alloc _) ⟨_, rfl, hE.size, Bx.new _ _ _ _ _⟩ FreshIf.yes }) ?_
    exact RgAll.nil
  intro v W2 e1 hΦ _
  replace S := S.mono e1
  obtain ⟨s29, a29, n29, c29, v1, h29⟩ := (hΦ 1 (by decide) : IsI 8 za (v 1) W2)
  obtain ⟨g8, v2, q2, b1⟩ := (hΦ 2 (by decide) : IsB W1 (v 2) W2)
  replace S := S.addN (Apart.old hl.out q2) (Nat.le_trans hw q2) b1
  clear b1
  simp only [layL, Act.put, List.setIfInBounds_toArray, List.set_cons_zero, List.set_cons_succ, Nat.reduceAdd]
  rw [v1, v2]
  clear v1 v2
  clear hΦ
  clear hl hw
  clear e1
  obtain ⟨s8, a8, n8, c8, b8, _⟩ := S.at 0 (g8) (IsI 0 0) rfl; have F1 := b8.c0; have F2 := b8.c1; have F3 := b8.f0; have F4 := b8.f1
  refine wpList_step fun K hK => ?_; go_simp; refine hK _ _ ?_; clear hK K
  clear F1 F2 F3 F4 b8
  obtain ⟨W3, hW, S2, G2, _⟩ := S.put 0 (g8) (IsI 0 0) (IsI 8 za) rfl s29 a29 n29 c29 (IsI.gstb _ _) ⟨_, _, _, _, rfl, h29⟩
  rw [← hW]; clear hW S
  have S : St w W3 [(g8, IsI 8 za), (w.heap.size, IsR s1 x1)] := S2; clear S2 G2
  clear h29
  refine wpList_nil ?_
  go_upto_region 5 with (fail)
  have hl := hid S.lt; have hw := S.ext.size
  refine wp_region_rgs 8 [some 31, some 32, some 30, some 33, some 34, some 35, some 9, some 10] [IsI 8 za, IsT3 (IsI 8 sz) (IsI 8 tz) (IsV (.int .i64 e)), IsT3 (IsI 8 sz) (IsI 8 tz) (IsV (.int .i64 e)), IsI 8 sz, IsI 8 tz, IsV (.int .i64 e), IsB W3, IsB W3] [6, 7] (by decide) (by kernel_rfl) (by kernel_rfl) (by kernel_rfl) ?_ ?_ ?_ ?_
  · repeat' (first | exact trivial | exact IsV.stb _ | exact IsW.stb _ | exact IsWk.stb _ _ | exact IsI.stb _ _ | exact IsB.stb _ | exact IsR.stb _ _ | exact IsMag.stb _ _ | exact IsPos.stb | apply IsT3.stb | apply IsT2.stb | apply And.intro)
  · intro i hi; simp only [List.mem_cons, List.not_mem_nil, or_false] at hi; rcases hi with rfl | rfl <;> exact IsB.box _
  · refine RgAll.cons (by { (with_reducible refine RgL.mk (by rfl) ?_); intro v a w' hE hd hf; have ev0 := hf.lit 8 (.pointer (some ⟨g8, 0, none⟩)) (by kernel_rfl) (by kernel_rfl); obtain ⟨s8, a8, n8, c8, b8, h8⟩ := (S.mono hE).at 0 (g8) (IsI 8 za) rfl; have L0 := b8.c0; have L1 := b8.c1; clear hd hf; intro K hK; go_simp; exact hK.out _ _ (Ext.refl _) h8 (FreshIf.no rfl) }) ?_
    refine RgAll.cons (by { (with_reducible refine RgL.mk (by rfl) ?_); intro v a w' hE hd hf; have d0 : (IsI 8 za) (v 0) w' := hd 0 (by kernel_rfl); have ev0 := hf.val 0 31 _ rfl (by kernel_rfl) (by kernel_rfl) (by kernel_rfl); clear hd hf; intro K hK; go_simp; go_at_call 29; go_split_ands; (with_reducible refine Calls.mono (HS.out _ _ d0) ?_); rintro e w2 ⟨x, rfl, e2, hx⟩; exact hK.out _ _ e2 hx (FreshIf.no rfl) }) ?_
    refine RgAll.cons (by { (with_reducible refine RgL.mk (by rfl) ?_); intro v a w' hE hd hf; have d0 : (IsT3 (IsI 8 sz) (IsI 8 tz) (IsV (.int .i64 e))) (v 1) w' := hd 1 (by kernel_rfl); have ev0 := hf.val 1 32 _ rfl (by kernel_rfl) (by kernel_rfl) (by kernel_rfl); clear hd hf; intro K hK; go_simp; exact hK.out _ _ (Ext.refl _) d0 (FreshIf.no rfl) }) ?_
    refine RgAll.cons (by { (with_reducible refine RgL.mk (by rfl) ?_); intro v a w' hE hd hf; have d0 : (IsT3 (IsI 8 sz) (IsI 8 tz) (IsV (.int .i64 e))) (v 2) w' := hd 2 (by kernel_rfl); obtain ⟨x0, x1, x2, z0, y0, y1, y2⟩ := d0; have ev0 := hf.val 2 30 _ z0 (by kernel_rfl) (by kernel_rfl) (by kernel_rfl); clear z0; clear hd hf; intro K hK; go_simp; exact hK.out _ _ (Ext.refl _) y0 (FreshIf.no rfl) }) ?_
    refine RgAll.cons (by { (with_reducible refine RgL.mk (by rfl) ?_); intro v a w' hE hd hf; have d0 : (IsT3 (IsI 8 sz) (IsI 8 tz) (IsV (.int .i64 e))) (v 2) w' := hd 2 (by kernel_rfl); obtain ⟨x0, x1, x2, z0, y0, y1, y2⟩ := d0; have ev0 := hf.val 2 30 _ z0 (by kernel_rfl) (by kernel_rfl) (by kernel_rfl); clear z0; clear hd hf; intro K hK; go_simp; exact hK.out _ _ (Ext.refl _) y1 (FreshIf.no rfl) }) ?_
    refine RgAll.cons (by { (with_reducible refine RgL.mk (by rfl) ?_); intro v a w' hE hd hf; have d0 : (IsT3 (IsI 8 sz) (IsI 8 tz) (IsV (.int .i64 e))) (v 2) w' := hd 2 (by kernel_rfl); obtain ⟨x0, x1, x2, z0, y0, y1, y2⟩ := d0; have ev0 := hf.val 2 30 _ z0 (by kernel_rfl) (by kernel_rfl) (by kernel_rfl); clear z0; clear hd hf; intro K hK; go_simp; exact hK.out _ _ (Ext.refl _) y2 (FreshIf.no rfl) }) ?_
    refine RgAll.cons (by { (with_reducible refine RgL.mk (by rfl) ?_); intro v a w' hE hd hf; skip; clear hd hf; intro K hK; go_simp; refine hK.out _ _ ((Ext.refl _).alloc _) ⟨_, rfl, hE.size, Bx.new _ _ _ _ _⟩ FreshIf.yes }) ?_
    refine RgAll.cons (by { (with_reducible refine RgL.mk (by rfl) ?_); intro v a w' hE hd hf; skip; clear hd hf; intro K hK; go_simp; refine hK.out _ _ ((Ext.refl _).alloc _) ⟨_, rfl, hE.size, Bx.new _ _ _ _ _⟩ FreshIf.yes }) ?_
    exact RgAll.nil
  intro v W4 e1 hΦ hne
  replace S := S.mono e1
  obtain ⟨s33, a33, n33, c33, v3, h33⟩ := (hΦ 3 (by decide) : IsI 8 sz (v 3) W4)
  obtain ⟨s34, a34, n34, c34, v4, h34⟩ := (hΦ 4 (by decide) : IsI 8 tz (v 4) W4)
  have v5 : v 5 = .int .i64 e := hΦ 5 (by decide)
  obtain ⟨g9, v6, q4, b3⟩ := (hΦ 6 (by decide) : IsB W3 (v 6) W4)
  replace S := S.addN (Apart.old hl.out q4) (Nat.le_trans hw q4) b3
  clear b3
  obtain ⟨g10, v7, q6, b5⟩ := (hΦ 7 (by decide) : IsB W3 (v 7) W4)
  replace S := S.addN (Apart.cons (fun h => hne 6 7 (by decide) (by decide) (by decide) (by decide) (by decide) (by rw [v6, v7, h])) (Apart.old hl.out q6)) (Nat.le_trans hw q6) b5
  clear b5
  clear hne
  simp only [layL, Act.put, List.setIfInBounds_toArray, List.set_cons_zero, List.set_cons_succ, Nat.reduceAdd]
  rw [v3, v4, v5, v6, v7]
  clear v3 v4 v5 v6 v7
  clear hΦ
  clear hl hw
  clear e1
  obtain ⟨s8, a8, n8, c8, b8, _⟩ := S.at 1 (g9) (IsI 0 0) rfl; have F1 := b8.c0; have F2 := b8.c1; have F3 := b8.f0; have F4 := b8.f1
  refine wpList_step fun K hK => ?_; go_simp; refine hK _ _ ?_; clear hK K
  clear F1 F2 F3 F4 b8
  obtain ⟨W5, hW, S2, G2, _⟩ := S.put 1 (g9) (IsI 0 0) (IsI 8 sz) rfl s33 a33 n33 c33 (IsI.gstb _ _) ⟨_, _, _, _, rfl, h33⟩
  rw [← hW]; clear hW S
  replace h34 := h34.gr G2
  have S : St w W5 [(g10, IsI 0 0), (g9, IsI 8 sz), (g8, IsI 8 za), (w.heap.size, IsR s1 x1)] := S2; clear S2 G2
  clear h33
  obtain ⟨s8, a8, n8, c8, b8, _⟩ := S.at 0 (g10) (IsI 0 0) rfl; have F1 := b8.c0; have F2 := b8.c1; have F3 := b8.f0; have F4 := b8.f1
  refine wpList_step fun K hK => ?_; go_simp; refine hK _ _ ?_; clear hK K
  clear F1 F2 F3 F4 b8
  obtain ⟨W6, hW, S2, G2, _⟩ := S.put 0 (g10) (IsI 0 0) (IsI 8 tz) rfl s34 a34 n34 c34 (IsI.gstb _ _) ⟨_, _, _, _, rfl, h34⟩
  rw [← hW]; clear hW S
  have S : St w W6 [(g10, IsI 8 tz), (g9, IsI 8 sz), (g8, IsI 8 za), (w.heap.size, IsR s1 x1)] := S2; clear S2 G2
  clear h34
  refine wpList_step fun K hK => ?_; go_simp; refine hK _ _ ?_; clear hK K
  refine wpList_nil ?_
  go_upto_region 6 with (fail)
  have hl := hid S.lt; have hw := S.ext.size
  refine wp_region_rgs 8 [some 37, some 38, some 36, some 39, some 40, some 41, some 12, some 13] [IsI 8 za, IsT3 (IsI 8 sz) (IsI 8 tz) (IsV (.int .i64 e)), IsT3 (IsI 8 sz) (IsI 8 tz) (IsV (.int .i64 e)), IsI 8 sz, IsI 8 tz, IsV (.int .i64 e), IsB W6, IsB W6] [6, 7] (by decide) (by kernel_rfl) (by kernel_rfl) (by kernel_rfl) ?_ ?_ ?_ ?_
  · repeat' (first | exact trivial | exact IsV.stb _ | exact IsW.stb _ | exact IsWk.stb _ _ | exact IsI.stb _ _ | exact IsB.stb _ | exact IsR.stb _ _ | exact IsMag.stb _ _ | exact IsPos.stb | apply IsT3.stb | apply IsT2.stb | apply And.intro)
  · intro i hi; simp only [List.mem_cons, List.not_mem_nil, or_false] at hi; rcases hi with rfl | rfl <;> exact IsB.box _
  · refine RgAll.cons (by { (with_reducible refine RgL.mk (by rfl) ?_); intro v a w' hE hd hf; have ev0 := hf.lit 8 (.pointer (some ⟨g8, 0, none⟩)) (by kernel_rfl) (by kernel_rfl); obtain ⟨s8, a8, n8, c8, b8, h8⟩ := (S.mono hE).at 2 (g8) (IsI 8 za) rfl; have L0 := b8.c0; have L1 := b8.c1; clear hd hf; intro K hK; go_simp; exact hK.out _ _ (Ext.refl _) h8 (FreshIf.no rfl) }) ?_
    refine RgAll.cons (by { (with_reducible refine RgL.mk (by rfl) ?_); intro v a w' hE hd hf; have d0 : (IsI 8 za) (v 0) w' := hd 0 (by kernel_rfl); have ev0 := hf.val 0 37 _ rfl (by kernel_rfl) (by kernel_rfl) (by kernel_rfl); clear hd hf; intro K hK; go_simp; go_at_call 30; go_split_ands; (with_reducible refine Calls.mono (HS2.out _ _ d0) ?_); rintro e w2 ⟨x, rfl, e2, hx⟩; exact hK.out _ _ e2 hx (FreshIf.no rfl) }) ?_
    refine RgAll.cons (by { (with_reducible refine RgL.mk (by rfl) ?_); intro v a w' hE hd hf; have d0 : (IsT3 (IsI 8 sz) (IsI 8 tz) (IsV (.int .i64 e))) (v 1) w' := hd 1 (by kernel_rfl); have ev0 := hf.val 1 38 _ rfl (by kernel_rfl) (by kernel_rfl) (by kernel_rfl); clear hd hf; intro K hK; go_simp; exact hK.out _ _ (Ext.refl _) d0 (FreshIf.no rfl) }) ?_
    refine RgAll.cons (by { (with_reducible refine RgL.mk (by rfl) ?_); intro v a w' hE hd hf; have d0 : (IsT3 (IsI 8 sz) (IsI 8 tz) (IsV (.int .i64 e))) (v 2) w' := hd 2 (by kernel_rfl); obtain ⟨x0, x1, x2, z0, y0, y1, y2⟩ := d0; have ev0 := hf.val 2 36 _ z0 (by kernel_rfl) (by kernel_rfl) (by kernel_rfl); clear z0; clear hd hf; intro K hK; go_simp; exact hK.out _ _ (Ext.refl _) y0 (FreshIf.no rfl) }) ?_
    refine RgAll.cons (by { (with_reducible refine RgL.mk (by rfl) ?_); intro v a w' hE hd hf; have d0 : (IsT3 (IsI 8 sz) (IsI 8 tz) (IsV (.int .i64 e))) (v 2) w' := hd 2 (by kernel_rfl); obtain ⟨x0, x1, x2, z0, y0, y1, y2⟩ := d0; have ev0 := hf.val 2 36 _ z0 (by kernel_rfl) (by kernel_rfl) (by kernel_rfl); clear z0; clear hd hf; intro K hK; go_simp; exact hK.out _ _ (Ext.refl _) y1 (FreshIf.no rfl) }) ?_
    refine RgAll.cons (by { (with_reducible refine RgL.mk (by rfl) ?_); intro v a w' hE hd hf; have d0 : (IsT3 (IsI 8 sz) (IsI 8 tz) (IsV (.int .i64 e))) (v 2) w' := hd 2 (by kernel_rfl); obtain ⟨x0, x1, x2, z0, y0, y1, y2⟩ := d0; have ev0 := hf.val 2 36 _ z0 (by kernel_rfl) (by kernel_rfl) (by kernel_rfl); clear z0; clear hd hf; intro K hK; go_simp; exact hK.out _ _ (Ext.refl _) y2 (FreshIf.no rfl) }) ?_
    refine RgAll.cons (by { (with_reducible refine RgL.mk (by rfl) ?_); intro v a w' hE hd hf; skip; clear hd hf; intro K hK; go_simp; refine hK.out _ _ ((Ext.refl _).alloc _) ⟨_, rfl, hE.size, Bx.new _ _ _ _ _⟩ FreshIf.yes }) ?_
    refine RgAll.cons (by { (with_reducible refine RgL.mk (by rfl) ?_); intro v a w' hE hd hf; skip; clear hd hf; intro K hK; go_simp; refine hK.out _ _ ((Ext.refl _).alloc _) ⟨_, rfl, hE.size, Bx.new _ _ _ _ _⟩ FreshIf.yes }) ?_
    exact RgAll.nil
  intro v W7 e1 hΦ hne
  replace S := S.mono e1
  obtain ⟨s39, a39, n39, c39, v3, h39⟩ := (hΦ 3 (by decide) : IsI 8 sz (v 3) W7)
  obtain ⟨s40, a40, n40, c40, v4, h40⟩ := (hΦ 4 (by decide) : IsI 8 tz (v 4) W7)
  have v5 : v 5 = .int .i64 e := hΦ 5 (by decide)
  obtain ⟨g12, v6, q8, b7⟩ := (hΦ 6 (by decide) : IsB W6 (v 6) W7)
  replace S := S.addN (Apart.old hl.out q8) (Nat.le_trans hw q8) b7
  clear b7
  obtain ⟨g13, v7, q10, b9⟩ := (hΦ 7 (by decide) : IsB W6 (v 7) W7)
  replace S := S.addN (Apart.cons (fun h => hne 6 7 (by decide) (by decide) (by decide) (by decide) (by decide) (by rw [v6, v7, h])) (Apart.old hl.out q10)) (Nat.le_trans hw q10) b9
  clear b9
  clear hne
  simp only [layL, Act.put, List.setIfInBounds_toArray, List.set_cons_zero, List.set_cons_succ, Nat.reduceAdd]
  rw [v3, v4, v5, v6, v7]
  clear v3 v4 v5 v6 v7
  clear hΦ
  clear hl hw
  clear e1
  obtain ⟨s8, a8, n8, c8, b8, _⟩ := S.at 1 (g12) (IsI 0 0) rfl; have F1 := b8.c0; have F2 := b8.c1; have F3 := b8.f0; have F4 := b8.f1
  refine wpList_step fun K hK => ?_; go_simp; refine hK _ _ ?_; clear hK K
  clear F1 F2 F3 F4 b8
  obtain ⟨W8, hW, S2, G2, _⟩ := S.put 1 (g12) (IsI 0 0) (IsI 8 sz) rfl s39 a39 n39 c39 (IsI.gstb _ _) ⟨_, _, _, _, rfl, h39⟩
  rw [← hW]; clear hW S
  replace h40 := h40.gr G2
  have S : St w W8 [(g13, IsI 0 0), (g12, IsI 8 sz), (g10, IsI 8 tz), (g9, IsI 8 sz), (g8, IsI 8 za), (w.heap.size, IsR s1 x1)] := S2; clear S2 G2
  clear h39
  obtain ⟨s8, a8, n8, c8, b8, _⟩ := S.at 0 (g13) (IsI 0 0) rfl; have F1 := b8.c0; have F2 := b8.c1; have F3 := b8.f0; have F4 := b8.f1
  refine wpList_step fun K hK => ?_; go_simp; refine hK _ _ ?_; clear hK K
  clear F1 F2 F3 F4 b8
  obtain ⟨W9, hW, S2, G2, _⟩ := S.put 0 (g13) (IsI 0 0) (IsI 8 tz) rfl s40 a40 n40 c40 (IsI.gstb _ _) ⟨_, _, _, _, rfl, h40⟩
  rw [← hW]; clear hW S
  have S : St w W9 [(g13, IsI 8 tz), (g12, IsI 8 sz), (g10, IsI 8 tz), (g9, IsI 8 sz), (g8, IsI 8 za), (w.heap.size, IsR s1 x1)] := S2; clear S2 G2
  clear h40
  refine wpList_step fun K hK => ?_; go_simp; refine hK _ _ ?_; clear hK K
  refine wpList_nil ?_
  go_upto_region 7 with (fail)
  have hl := hid S.lt; have hw := S.ext.size
  refine wp_region_rgs 7 [some 43, some 44, some 45, some 42, some 46, some 47, some 15] [IsI 8 za, IsV (.int .i64 kk), IsT2 (IsI 8 pz) (IsV (.int .i64 1)), IsT2 (IsI 8 pz) (IsV (.int .i64 1)), IsI 8 pz, IsV (.int .i64 1), IsB W9] [6] (by decide) (by kernel_rfl) (by kernel_rfl) (by kernel_rfl) ?_ ?_ ?_ ?_
  · repeat' (first | exact trivial | exact IsV.stb _ | exact IsW.stb _ | exact IsWk.stb _ _ | exact IsI.stb _ _ | exact IsB.stb _ | exact IsR.stb _ _ | exact IsMag.stb _ _ | exact IsPos.stb | apply IsT3.stb | apply IsT2.stb | apply And.intro)
  · intro i hi; simp only [List.mem_cons, List.not_mem_nil, or_false] at hi; subst hi; exact IsB.box _
  · refine RgAll.cons (by { (with_reducible refine RgL.mk (by rfl) ?_); intro v a w' hE hd hf; have ev0 := hf.lit 8 (.pointer (some ⟨g8, 0, none⟩)) (by kernel_rfl) (by kernel_rfl); obtain ⟨s8, a8, n8, c8, b8, h8⟩ := (S.mono hE).at 4 (g8) (IsI 8 za) rfl; have L0 := b8.c0; have L1 := b8.c1; clear hd hf; intro K hK; go_simp; exact hK.out _ _ (Ext.refl _) h8 (FreshIf.no rfl) }) ?_
    refine RgAll.cons (by { (with_reducible refine RgL.mk (by rfl) ?_); intro v a w' hE hd hf; have ev0 := hf.lit 1 (.int .i64 kk) (by kernel_rfl) (by kernel_rfl); clear hd hf; intro K hK; go_simp; exact hK.out _ _ (Ext.refl _) rfl (FreshIf.no rfl) }) ?_
    refine RgAll.cons (by { (with_reducible refine RgL.mk (by rfl) ?_); intro v a w' hE hd hf; have d0 : (IsI 8 za) (v 0) w' := hd 0 (by kernel_rfl); have ev0 := hf.val 0 43 _ rfl (by kernel_rfl) (by kernel_rfl) (by kernel_rfl); have d1 : v 1 = .int .i64 kk := hd 1 (by kernel_rfl); have ev1 := hf.val 1 44 _ d1 (by kernel_rfl) (by kernel_rfl) (by kernel_rfl); clear d1; clear hd hf; intro K hK; go_simp; go_at_call 31; go_split_ands; (with_reducible refine Calls.mono (HR.out _ _ d0) ?_); rintro e w2 ⟨x, rfl, e2, hx⟩; exact hK.out _ _ e2 hx (FreshIf.no rfl) }) ?_
    refine RgAll.cons (by { (with_reducible refine RgL.mk (by rfl) ?_); intro v a w' hE hd hf; have d0 : (IsT2 (IsI 8 pz) (IsV (.int .i64 1))) (v 2) w' := hd 2 (by kernel_rfl); have ev0 := hf.val 2 45 _ rfl (by kernel_rfl) (by kernel_rfl) (by kernel_rfl); clear hd hf; intro K hK; go_simp; exact hK.out _ _ (Ext.refl _) d0 (FreshIf.no rfl) }) ?_
    refine RgAll.cons (by { (with_reducible refine RgL.mk (by rfl) ?_); intro v a w' hE hd hf; have d0 : (IsT2 (IsI 8 pz) (IsV (.int .i64 1))) (v 3) w' := hd 3 (by kernel_rfl); obtain ⟨x0, x1, z0, y0, y1⟩ := d0; have ev0 := hf.val 3 42 _ z0 (by kernel_rfl) (by kernel_rfl) (by kernel_rfl); clear z0; clear hd hf; intro K hK; go_simp; exact hK.out _ _ (Ext.refl _) y0 (FreshIf.no rfl) }) ?_
    refine RgAll.cons (by { (with_reducible refine RgL.mk (by rfl) ?_); intro v a w' hE hd hf; have d0 : (IsT2 (IsI 8 pz) (IsV (.int .i64 1))) (v 3) w' := hd 3 (by kernel_rfl); obtain ⟨x0, x1, z0, y0, y1⟩ := d0; have ev0 := hf.val 3 42 _ z0 (by kernel_rfl) (by kernel_rfl) (by kernel_rfl); clear z0; clear hd hf; intro K hK; go_simp; exact hK.out _ _ (Ext.refl _) y1 (FreshIf.no rfl) }) ?_
    refine RgAll.cons (by { (with_reducible refine RgL.mk (by rfl) ?_); intro v a w' hE hd hf; skip; clear hd hf; intro K hK; go_simp; refine hK.out _ _ ((Ext.refl _).alloc _) ⟨_, rfl, hE.size, Bx.new _ _ _ _ _⟩ FreshIf.yes }) ?_
    exact RgAll.nil
  intro v W10 e1 hΦ _
  replace S := S.mono e1
  obtain ⟨s46, a46, n46, c46, v4, h46⟩ := (hΦ 4 (by decide) : IsI 8 pz (v 4) W10)
  have v5 : v 5 = .int .i64 1 := hΦ 5 (by decide)
  obtain ⟨g15, v6, q12, b11⟩ := (hΦ 6 (by decide) : IsB W9 (v 6) W10)
  replace S := S.addN (Apart.old hl.out q12) (Nat.le_trans hw q12) b11
  clear b11
  simp only [layL, Act.put, List.setIfInBounds_toArray, List.set_cons_zero, List.set_cons_succ, Nat.reduceAdd]
  rw [v4, v5, v6]
  clear v4 v5 v6
  clear hΦ
  clear hl hw
  clear e1
  obtain ⟨s8, a8, n8, c8, b8, _⟩ := S.at 0 (g15) (IsI 0 0) rfl; have F1 := b8.c0; have F2 := b8.c1; have F3 := b8.f0; have F4 := b8.f1
  refine wpList_step fun K hK => ?_; go_simp; refine hK _ _ ?_; clear hK K
  clear F1 F2 F3 F4 b8
  obtain ⟨W11, hW, S2, G2, _⟩ := S.put 0 (g15) (IsI 0 0) (IsI 8 pz) rfl s46 a46 n46 c46 (IsI.gstb _ _) ⟨_, _, _, _, rfl, h46⟩
  rw [← hW]; clear hW S
  have S : St w W11 [(g15, IsI 8 pz), (g13, IsI 8 tz), (g12, IsI 8 sz), (g10, IsI 8 tz), (g9, IsI 8 sz), (g8, IsI 8 za), (w.heap.size, IsR s1 x1)] := S2; clear S2 G2
  clear h46
  refine wpList_step fun K hK => ?_; go_simp; refine hK _ _ ?_; clear hK K
  refine wpList_nil ?_
  go_upto_region 8 with (fail)
  have hl := hid S.lt; have hw := S.ext.size
  refine wp_region_rgs 7 [some 49, some 50, some 51, some 48, some 52, some 53, some 17] [IsI 8 za, IsV (.int .i64 kk), IsT2 (IsI 8 pz) (IsV (.int .i64 1)), IsT2 (IsI 8 pz) (IsV (.int .i64 1)), IsI 8 pz, IsV (.int .i64 1), IsB W11] [6] (by decide) (by kernel_rfl) (by kernel_rfl) (by kernel_rfl) ?_ ?_ ?_ ?_
  · repeat' (first | exact trivial | exact IsV.stb _ | exact IsW.stb _ | exact IsWk.stb _ _ | exact IsI.stb _ _ | exact IsB.stb _ | exact IsR.stb _ _ | exact IsMag.stb _ _ | exact IsPos.stb | apply IsT3.stb | apply IsT2.stb | apply And.intro)
  · intro i hi; simp only [List.mem_cons, List.not_mem_nil, or_false] at hi; subst hi; exact IsB.box _
  · refine RgAll.cons (by { (with_reducible refine RgL.mk (by rfl) ?_); intro v a w' hE hd hf; have ev0 := hf.lit 8 (.pointer (some ⟨g8, 0, none⟩)) (by kernel_rfl) (by kernel_rfl); obtain ⟨s8, a8, n8, c8, b8, h8⟩ := (S.mono hE).at 5 (g8) (IsI 8 za) rfl; have L0 := b8.c0; have L1 := b8.c1; clear hd hf; intro K hK; go_simp; exact hK.out _ _ (Ext.refl _) h8 (FreshIf.no rfl) }) ?_
    refine RgAll.cons (by { (with_reducible refine RgL.mk (by rfl) ?_); intro v a w' hE hd hf; have ev0 := hf.lit 1 (.int .i64 kk) (by kernel_rfl) (by kernel_rfl); clear hd hf; intro K hK; go_simp; exact hK.out _ _ (Ext.refl _) rfl (FreshIf.no rfl) }) ?_
    refine RgAll.cons (by { (with_reducible refine RgL.mk (by rfl) ?_); intro v a w' hE hd hf; have d0 : (IsI 8 za) (v 0) w' := hd 0 (by kernel_rfl); have ev0 := hf.val 0 49 _ rfl (by kernel_rfl) (by kernel_rfl) (by kernel_rfl); have d1 : v 1 = .int .i64 kk := hd 1 (by kernel_rfl); have ev1 := hf.val 1 50 _ d1 (by kernel_rfl) (by kernel_rfl) (by kernel_rfl); clear d1; clear hd hf; intro K hK; go_simp; go_at_call 32; go_split_ands; (with_reducible refine Calls.mono (HR2.out _ _ d0) ?_); rintro e w2 ⟨x, rfl, e2, hx⟩; exact hK.out _ _ e2 hx (FreshIf.no rfl) }) ?_
    refine RgAll.cons (by { (with_reducible refine RgL.mk (by rfl) ?_); intro v a w' hE hd hf; have d0 : (IsT2 (IsI 8 pz) (IsV (.int .i64 1))) (v 2) w' := hd 2 (by kernel_rfl); have ev0 := hf.val 2 51 _ rfl (by kernel_rfl) (by kernel_rfl) (by kernel_rfl); clear hd hf; intro K hK; go_simp; exact hK.out _ _ (Ext.refl _) d0 (FreshIf.no rfl) }) ?_
    refine RgAll.cons (by { (with_reducible refine RgL.mk (by rfl) ?_); intro v a w' hE hd hf; have d0 : (IsT2 (IsI 8 pz) (IsV (.int .i64 1))) (v 3) w' := hd 3 (by kernel_rfl); obtain ⟨x0, x1, z0, y0, y1⟩ := d0; have ev0 := hf.val 3 48 _ z0 (by kernel_rfl) (by kernel_rfl) (by kernel_rfl); clear z0; clear hd hf; intro K hK; go_simp; exact hK.out _ _ (Ext.refl _) y0 (FreshIf.no rfl) }) ?_
    refine RgAll.cons (by { (with_reducible refine RgL.mk (by rfl) ?_); intro v a w' hE hd hf; have d0 : (IsT2 (IsI 8 pz) (IsV (.int .i64 1))) (v 3) w' := hd 3 (by kernel_rfl); obtain ⟨x0, x1, z0, y0, y1⟩ := d0; have ev0 := hf.val 3 48 _ z0 (by kernel_rfl) (by kernel_rfl) (by kernel_rfl); clear z0; clear hd hf; intro K hK; go_simp; exact hK.out _ _ (Ext.refl _) y1 (FreshIf.no rfl) }) ?_
    refine RgAll.cons (by { (with_reducible refine RgL.mk (by rfl) ?_); intro v a w' hE hd hf; skip; clear hd hf; intro K hK; go_simp; refine hK.out _ _ ((Ext.refl _).alloc _) ⟨_, rfl, hE.size, Bx.new _ _ _ _ _⟩ FreshIf.yes }) ?_
    exact RgAll.nil
  intro v W12 e1 hΦ _
  replace S := S.mono e1
  obtain ⟨s52, a52, n52, c52, v4, h52⟩ := (hΦ 4 (by decide) : IsI 8 pz (v 4) W12)
  have v5 : v 5 = .int .i64 1 := hΦ 5 (by decide)
  obtain ⟨g17, v6, q14, b13⟩ := (hΦ 6 (by decide) : IsB W11 (v 6) W12)
  replace S := S.addN (Apart.old hl.out q14) (Nat.le_trans hw q14) b13
  clear b13
  simp only [layL, Act.put, List.setIfInBounds_toArray, List.set_cons_zero, List.set_cons_succ, Nat.reduceAdd]
  rw [v4, v5, v6]
  clear v4 v5 v6
  clear hΦ
  clear hl hw
  clear e1
  obtain ⟨s8, a8, n8, c8, b8, _⟩ := S.at 0 (g17) (IsI 0 0) rfl; have F1 := b8.c0; have F2 := b8.c1; have F3 := b8.f0; have F4 := b8.f1
  refine wpList_step fun K hK => ?_; go_simp; refine hK _ _ ?_; clear hK K
  clear F1 F2 F3 F4 b8
  obtain ⟨W13, hW, S2, G2, _⟩ := S.put 0 (g17) (IsI 0 0) (IsI 8 pz) rfl s52 a52 n52 c52 (IsI.gstb _ _) ⟨_, _, _, _, rfl, h52⟩
  rw [← hW]; clear hW S
  have S : St w W13 [(g17, IsI 8 pz), (g15, IsI 8 pz), (g13, IsI 8 tz), (g12, IsI 8 sz), (g10, IsI 8 tz), (g9, IsI 8 sz), (g8, IsI 8 za), (w.heap.size, IsR s1 x1)] := S2; clear S2 G2
  clear h52
  refine wpList_step fun K hK => ?_; go_simp; refine hK _ _ ?_; clear hK K
  refine wpList_nil ?_
  go_upto_region 9 with (fail)
  have hl := hid S.lt; have hw := S.ext.size
  refine wp_region_rg 12 [some 54, some 55, some 56, some 57, some 58, some 59, some 60, some 61, some 62, some 63, some 64, some 19] [IsV (.pointer (some ⟨w.heap.size, 0, none⟩)), IsV (.bool s1), IsV (.pointer (some ⟨w.heap.size, 1, none⟩)), IsW x1, IsV (.pointer (some ⟨w.heap.size, 1, none⟩)), IsW x1, IsV (.int .i64 (x1).length), IsV (.int .i64 (m : Nat)), IsW (x1.take m), IsR s1 (((x1.take m))), IsI 2 zb, IsB W13] [11] 1 (by kernel_rfl) (by decide) (by kernel_rfl) (by kernel_rfl) (by kernel_rfl) (by kernel_rfl) (by kernel_rfl) ?_ ?_ ?_ ?_
  · repeat' (first | exact trivial | exact IsV.stb _ | exact IsW.stb _ | exact IsWk.stb _ _ | exact IsI.stb _ _ | exact IsB.stb _ | exact IsR.stb _ _ | exact IsMag.stb _ _ | exact IsPos.stb | apply IsT3.stb | apply IsT2.stb | apply And.intro)
  · intro i hi; simp only [List.mem_cons, List.not_mem_nil, or_false] at hi; subst hi; exact IsB.box _
  · refine RgAll.cons (by { (with_reducible refine RgL.mk (by rfl) ?_); intro v a w' hE hd hf; have ev0 := hf.lit 3 (.pointer (some ⟨w.heap.size, 0, none⟩)) (by kernel_rfl) (by kernel_rfl); clear hd hf; intro K hK; go_simp; exact hK.out _ _ (Ext.refl _) rfl (FreshIf.no rfl) }) ?_
    refine RgAll.cons (by { (with_reducible refine RgL.mk (by rfl) ?_); intro v a w' hE hd hf; have d0 : v 0 = .pointer (some ⟨w.heap.size, 0, none⟩) := hd 0 (by kernel_rfl); have ev0 := hf.val 0 54 _ d0 (by kernel_rfl) (by kernel_rfl) (by kernel_rfl); clear d0; obtain ⟨s8, a8, n8, c8, b8, h8⟩ := (S.mono hE).at 7 (w.heap.size) (IsR s1 x1) rfl; have L0 := b8.c0; have L1 := b8.c1; obtain ⟨a9, n9, c9, k9, h9⟩ := h8; injection k9 with k9; simp only [Array.mk.injEq, List.cons.injEq, Value.bool.injEq, Value.slice.injEq, and_true] at k9; obtain ⟨rfl, rfl, rfl, rfl⟩ := k9; clear hd hf; intro K hK; go_simp; exact hK.out _ _ (Ext.refl _) rfl (FreshIf.no rfl) }) ?_
    refine RgAll.cons (by { (with_reducible refine RgL.mk (by rfl) ?_); intro v a w' hE hd hf; have ev0 := hf.lit 3 (.pointer (some ⟨w.heap.size, 0, none⟩)) (by kernel_rfl) (by kernel_rfl); clear hd hf; intro K hK; go_simp; exact hK.out _ _ (Ext.refl _) rfl (FreshIf.no rfl) }) ?_
    refine RgAll.cons (by { (with_reducible refine RgL.mk (by rfl) ?_); intro v a w' hE hd hf; have d0 : v 2 = .pointer (some ⟨w.heap.size, 1, none⟩) := hd 2 (by kernel_rfl); have ev0 := hf.val 2 56 _ d0 (by kernel_rfl) (by kernel_rfl) (by kernel_rfl); clear d0; obtain ⟨s8, a8, n8, c8, b8, h8⟩ := (S.mono hE).at 7 (w.heap.size) (IsR s1 x1) rfl; have L0 := b8.c0; have L1 := b8.c1; obtain ⟨a9, n9, c9, k9, h9⟩ := h8; injection k9 with k9; simp only [Array.mk.injEq, List.cons.injEq, Value.bool.injEq, Value.slice.injEq, and_true] at k9; obtain ⟨rfl, rfl, rfl, rfl⟩ := k9; clear hd hf; intro K hK; go_simp; exact hK.out _ _ (Ext.refl _) ⟨_, _, _, rfl, h9⟩ (FreshIf.no rfl) }) ?_
    refine RgAll.cons (by { (with_reducible refine RgL.mk (by rfl) ?_); intro v a w' hE hd hf; have ev0 := hf.lit 3 (.pointer (some ⟨w.heap.size, 0, none⟩)) (by kernel_rfl) (by kernel_rfl); clear hd hf; intro K hK; go_simp; exact hK.out _ _ (Ext.refl _) rfl (FreshIf.no rfl) }) ?_
    refine RgAll.cons (by { (with_reducible refine RgL.mk (by rfl) ?_); intro v a w' hE hd hf; have d0 : v 4 = .pointer (some ⟨w.heap.size, 1, none⟩) := hd 4 (by kernel_rfl); have ev0 := hf.val 4 58 _ d0 (by kernel_rfl) (by kernel_rfl) (by kernel_rfl); clear d0; obtain ⟨s8, a8, n8, c8, b8, h8⟩ := (S.mono hE).at 7 (w.heap.size) (IsR s1 x1) rfl; have L0 := b8.c0; have L1 := b8.c1; obtain ⟨a9, n9, c9, k9, h9⟩ := h8; injection k9 with k9; simp only [Array.mk.injEq, List.cons.injEq, Value.bool.injEq, Value.slice.injEq, and_true] at k9; obtain ⟨rfl, rfl, rfl, rfl⟩ := k9; clear hd hf; intro K hK; go_simp; exact hK.out _ _ (Ext.refl _) ⟨_, _, _, rfl, h9⟩ (FreshIf.no rfl) }) ?_
    refine RgAll.cons (by { (with_reducible refine RgL.mk (by rfl) ?_); intro v a w' hE hd hf; have d0 : (IsW x1) (v 5) w' := hd 5 (by kernel_rfl); obtain ⟨a9, n9, c9, z0, h9⟩ := d0; have ev0 := hf.val 5 59 _ z0 (by kernel_rfl) (by kernel_rfl) (by kernel_rfl); clear z0; have l9 := h9.len; subst l9; have t9 := h9.capo; have t8 := h9.big; clear h9; clear hd hf; intro K hK; go_simp; exact hK.out _ _ (Ext.refl _) rfl (FreshIf.no rfl) }) ?_
    refine RgAll.cons (by { (with_reducible refine RgL.mk (by rfl) ?_); intro v a w' hE hd hf; have d0 : v 6 = .int .i64 (x1).length := hd 6 (by kernel_rfl); have ev0 := hf.val 6 60 _ d0 (by kernel_rfl) (by kernel_rfl) (by kernel_rfl); clear d0; have hx9 := HMI.out; clear hd hf; intro K hK; go_simp; exact hK.out _ _ (Ext.refl _) rfl (FreshIf.no rfl) }) ?_
    refine RgAll.cons (by { (with_reducible refine RgL.mk (by rfl) ?_); intro v a w' hE hd hf; have d0 : (IsW x1) (v 3) w' := hd 3 (by kernel_rfl); obtain ⟨a9, n9, c9, z0, h9⟩ := d0; have ev0 := hf.val 3 57 _ z0 (by kernel_rfl) (by kernel_rfl) (by kernel_rfl); clear z0; have d1 : v 7 = .int .i64 (m : Nat) := hd 7 (by kernel_rfl); have ev1 := hf.val 7 61 _ d1 (by kernel_rfl) (by kernel_rfl) (by kernel_rfl); clear d1; have l9 := h9.len; subst l9; have t9 := HML.out; have t8 := h9.capo; have t7 := h9.big; have t6 := Nat.le_trans t9 t8; have h9 := hid h9; clear hd hf; intro K hK; go_simp; exact hK.out _ _ (Ext.refl _) ⟨_, _, _, rfl, h9.out.take _ (HML.out)⟩ (FreshIf.no rfl) }) ?_
    refine RgAll.cons (by { (with_reducible refine RgL.mk (by rfl) ?_); intro v a w' hE hd hf; have d0 : v 1 = .bool s1 := hd 1 (by kernel_rfl); have ev0 := hf.val 1 55 _ d0 (by kernel_rfl) (by kernel_rfl) (by kernel_rfl); clear d0; have d1 : (IsW (x1.take m)) (v 8) w' := hd 8 (by kernel_rfl); obtain ⟨a9, n9, c9, z0, h9⟩ := d1; have ev1 := hf.val 8 62 _ z0 (by kernel_rfl) (by kernel_rfl) (by kernel_rfl); clear z0; clear hd hf; intro K hK; go_simp; exact hK.out _ _ (Ext.refl _) ⟨_, _, _, rfl, h9⟩ (FreshIf.no rfl) }) ?_
    refine RgAll.cons (by { (with_reducible refine RgL.mk (by rfl) ?_); intro v a w' hE hd hf; have d0 : (IsR s1 (((x1.take m)))) (v 9) w' := hd 9 (by kernel_rfl); have ev0 := hf.val 9 63 _ rfl (by kernel_rfl) (by kernel_rfl) (by kernel_rfl); clear hd hf; intro K hK; go_simp; go_at_call 6; go_split_ands; (with_reducible refine Calls.mono (Calls.mono (Made_f d0 (by decide)) fun _ _ h => h.eqz Hb.out) ?_); rintro e w2 ⟨x, rfl, e2, hx⟩; exact hK.out _ _ e2 hx (FreshIf.no rfl) }) ?_
    refine RgAll.cons (by { (with_reducible refine RgL.mk (by rfl) ?_); intro v a w' hE hd hf; skip; clear hd hf; intro K hK; go_simp; refine hK.out _ _ ((Ext.refl _).alloc _) ⟨_, rfl, hE.size, Bx.new _ _ _ _ _⟩ FreshIf.yes }) ?_
    exact RgAll.nil
  intro v W14 e1 hΦ _
  replace S := S.mono e1
  obtain ⟨s64, a64, n64, c64, v10, h64⟩ := (hΦ 10 (by decide) : IsI 2 zb (v 10) W14)
  obtain ⟨g19, v11, q16, b15⟩ := (hΦ 11 (by decide) : IsB W13 (v 11) W14)
  replace S := S.addN (Apart.old hl.out q16) (Nat.le_trans hw q16) b15
  clear b15
  simp only [layL, Act.put, List.setIfInBounds_toArray, List.set_cons_zero, List.set_cons_succ, Nat.reduceAdd]
  rw [v10, v11]
  clear v10 v11
  clear hΦ
  clear hl hw
  clear e1
  obtain ⟨s8, a8, n8, c8, b8, _⟩ := S.at 0 (g19) (IsI 0 0) rfl; have F1 := b8.c0; have F2 := b8.c1; have F3 := b8.f0; have F4 := b8.f1
  refine wpAny_ready (rs := [12]) (by kernel_rfl) (by simp) (AllReady.cons rfl (fun K hK => ?_) AllReady.nil); go_simp; refine hK _ _ ?_; clear hK K
  clear F1 F2 F3 F4 b8
  obtain ⟨W15, hW, S2, G2, _⟩ := S.put 0 (g19) (IsI 0 0) (IsI 2 zb) rfl s64 a64 n64 c64 (IsI.gstb _ _) ⟨_, _, _, _, rfl, h64⟩
  rw [← hW]; clear hW S
  have S : St w W15 [(g19, IsI 2 zb), (g17, IsI 8 pz), (g15, IsI 8 pz), (g13, IsI 8 tz), (g12, IsI 8 sz), (g10, IsI 8 tz), (g9, IsI 8 sz), (g8, IsI 8 za), (w.heap.size, IsR s1 x1)] := S2; clear S2 G2
  clear h64
  refine wpAny_done (by kernel_rfl) ?_ _
  go_upto_region 10 with (fail)
  have hl := hid S.lt; have hw := S.ext.size
  refine wp_region_rgs 7 [some 66, some 67, some 68, some 65, some 69, some 70, some 20] [IsI 2 zb, IsV (.int .i64 nn), IsT2 (IsI 128 cz) (IsV (.int .i64 i)), IsT2 (IsI 128 cz) (IsV (.int .i64 i)), IsI 128 cz, IsV (.int .i64 i), IsB W15] [6] (by decide) (by kernel_rfl) (by kernel_rfl) (by kernel_rfl) ?_ ?_ ?_ ?_
  · repeat' (first | exact trivial | exact IsV.stb _ | exact IsW.stb _ | exact IsWk.stb _ _ | exact IsI.stb _ _ | exact IsB.stb _ | exact IsR.stb _ _ | exact IsMag.stb _ _ | exact IsPos.stb | apply IsT3.stb | apply IsT2.stb | apply And.intro)
  · intro i hi; simp only [List.mem_cons, List.not_mem_nil, or_false] at hi; subst hi; exact IsB.box _
  · refine RgAll.cons (by { (with_reducible refine RgL.mk (by rfl) ?_); intro v a w' hE hd hf; have ev0 := hf.lit 19 (.pointer (some ⟨g19, 0, none⟩)) (by kernel_rfl) (by kernel_rfl); obtain ⟨s8, a8, n8, c8, b8, h8⟩ := (S.mono hE).at 0 (g19) (IsI 2 zb) rfl; have L0 := b8.c0; have L1 := b8.c1; clear hd hf; intro K hK; go_simp; exact hK.out _ _ (Ext.refl _) h8 (FreshIf.no rfl) }) ?_
    refine RgAll.cons (by { (with_reducible refine RgL.mk (by rfl) ?_); intro v a w' hE hd hf; have ev0 := hf.lit 2 (.int .i64 nn) (by kernel_rfl) (by kernel_rfl); clear hd hf; intro K hK; go_simp; exact hK.out _ _ (Ext.refl _) rfl (FreshIf.no rfl) }) ?_
    refine RgAll.cons (by { (with_reducible refine RgL.mk (by rfl) ?_); intro v a w' hE hd hf; have d0 : (IsI 2 zb) (v 0) w' := hd 0 (by kernel_rfl); have ev0 := hf.val 0 66 _ rfl (by kernel_rfl) (by kernel_rfl) (by kernel_rfl); have d1 : v 1 = .int .i64 nn := hd 1 (by kernel_rfl); have ev1 := hf.val 1 67 _ d1 (by kernel_rfl) (by kernel_rfl) (by kernel_rfl); clear d1; clear hd hf; intro K hK; go_simp; go_at_call 33; go_split_ands; (with_reducible refine Calls.mono (HP.out _ _ d0) ?_); rintro e w2 ⟨x, rfl, e2, hx⟩; exact hK.out _ _ e2 hx (FreshIf.no rfl) }) ?_
    refine RgAll.cons (by { (with_reducible refine RgL.mk (by rfl) ?_); intro v a w' hE hd hf; have d0 : (IsT2 (IsI 128 cz) (IsV (.int .i64 i))) (v 2) w' := hd 2 (by kernel_rfl); have ev0 := hf.val 2 68 _ rfl (by kernel_rfl) (by kernel_rfl) (by kernel_rfl); clear hd hf; intro K hK; go_simp; exact hK.out _ _ (Ext.refl _) d0 (FreshIf.no rfl) }) ?_
    refine RgAll.cons (by { (with_reducible refine RgL.mk (by rfl) ?_); intro v a w' hE hd hf; have d0 : (IsT2 (IsI 128 cz) (IsV (.int .i64 i))) (v 3) w' := hd 3 (by kernel_rfl); obtain ⟨x0, x1, z0, y0, y1⟩ := d0; have ev0 := hf.val 3 65 _ z0 (by kernel_rfl) (by kernel_rfl) (by kernel_rfl); clear z0; clear hd hf; intro K hK; go_simp; exact hK.out _ _ (Ext.refl _) y0 (FreshIf.no rfl) }) ?_
    refine RgAll.cons (by { (with_reducible refine RgL.mk (by rfl) ?_); intro v a w' hE hd hf; have d0 : (IsT2 (IsI 128 cz) (IsV (.int .i64 i))) (v 3) w' := hd 3 (by kernel_rfl); obtain ⟨x0, x1, z0, y0, y1⟩ := d0; have ev0 := hf.val 3 65 _ z0 (by kernel_rfl) (by kernel_rfl) (by kernel_rfl); clear z0; clear hd hf; intro K hK; go_simp; exact hK.out _ _ (Ext.refl _) y1 (FreshIf.no rfl) }) ?_
    refine RgAll.cons (by { (with_reducible refine RgL.mk (by rfl) ?_); intro v a w' hE hd hf; skip; clear hd hf; intro K hK; go_simp; refine hK.out _ _ ((Ext.refl _).alloc _) ⟨_, rfl, hE.size, Bx.new _ _ _ _ _⟩ FreshIf.yes }) ?_
    exact RgAll.nil
  intro v W16 e1 hΦ _
  replace S := S.mono e1
  obtain ⟨s69, a69, n69, c69, v4, h69⟩ := (hΦ 4 (by decide) : IsI 128 cz (v 4) W16)
  have v5 : v 5 = .int .i64 i := hΦ 5 (by decide)
  obtain ⟨g20, v6, q18, b17⟩ := (hΦ 6 (by decide) : IsB W15 (v 6) W16)
  replace S := S.addN (Apart.old hl.out q18) (Nat.le_trans hw q18) b17
  clear b17
  simp only [layL, Act.put, List.setIfInBounds_toArray, List.set_cons_zero, List.set_cons_succ, Nat.reduceAdd]
  rw [v4, v5, v6]
  clear v4 v5 v6
  clear hΦ
  clear hl hw
  clear e1
  obtain ⟨s8, a8, n8, c8, b8, _⟩ := S.at 0 (g20) (IsI 0 0) rfl; have F1 := b8.c0; have F2 := b8.c1; have F3 := b8.f0; have F4 := b8.f1
  refine wpList_step fun K hK => ?_; go_simp; refine hK _ _ ?_; clear hK K
  clear F1 F2 F3 F4 b8
  obtain ⟨W17, hW, S2, G2, _⟩ := S.put 0 (g20) (IsI 0 0) (IsI 128 cz) rfl s69 a69 n69 c69 (IsI.gstb _ _) ⟨_, _, _, _, rfl, h69⟩
  rw [← hW]; clear hW S
  have S : St w W17 [(g20, IsI 128 cz), (g19, IsI 2 zb), (g17, IsI 8 pz), (g15, IsI 8 pz), (g13, IsI 8 tz), (g12, IsI 8 sz), (g10, IsI 8 tz), (g9, IsI 8 sz), (g8, IsI 8 za), (w.heap.size, IsR s1 x1)] := S2; clear S2 G2
  clear h69
  refine wpList_step fun K hK => ?_; go_simp; refine hK _ _ ?_; clear hK K
  refine wpList_nil ?_
  go_upto_region 11 with (fail)
  have hl := hid S.lt; have hw := S.ext.size
  refine wp_region_rgs 7 [some 72, some 73, some 74, some 71, some 75, some 76, some 22] [IsI 2 zb, IsV (.int .i64 nn), IsT2 (IsI 128 cz) (IsV (.int .i64 i)), IsT2 (IsI 128 cz) (IsV (.int .i64 i)), IsI 128 cz, IsV (.int .i64 i), IsB W17] [6] (by decide) (by kernel_rfl) (by kernel_rfl) (by kernel_rfl) ?_ ?_ ?_ ?_
  · repeat' (first | exact trivial | exact IsV.stb _ | exact IsW.stb _ | exact IsWk.stb _ _ | exact IsI.stb _ _ | exact IsB.stb _ | exact IsR.stb _ _ | exact IsMag.stb _ _ | exact IsPos.stb | apply IsT3.stb | apply IsT2.stb | apply And.intro)
  · intro i hi; simp only [List.mem_cons, List.not_mem_nil, or_false] at hi; subst hi; exact IsB.box _
  · refine RgAll.cons (by { (with_reducible refine RgL.mk (by rfl) ?_); intro v a w' hE hd hf; have ev0 := hf.lit 19 (.pointer (some ⟨g19, 0, none⟩)) (by kernel_rfl) (by kernel_rfl); obtain ⟨s8, a8, n8, c8, b8, h8⟩ := (S.mono hE).at 1 (g19) (IsI 2 zb) rfl; have L0 := b8.c0; have L1 := b8.c1; clear hd hf; intro K hK; go_simp; exact hK.out _ _ (Ext.refl _) h8 (FreshIf.no rfl) }) ?_
    refine RgAll.cons (by { (with_reducible refine RgL.mk (by rfl) ?_); intro v a w' hE hd hf; have ev0 := hf.lit 2 (.int .i64 nn) (by kernel_rfl) (by kernel_rfl); clear hd hf; intro K hK; go_simp; exact hK.out _ _ (Ext.refl _) rfl (FreshIf.no rfl) }) ?_
    refine RgAll.cons (by { (with_reducible refine RgL.mk (by rfl) ?_); intro v a w' hE hd hf; have d0 : (IsI 2 zb) (v 0) w' := hd 0 (by kernel_rfl); have ev0 := hf.val 0 72 _ rfl (by kernel_rfl) (by kernel_rfl) (by kernel_rfl); have d1 : v 1 = .int .i64 nn := hd 1 (by kernel_rfl); have ev1 := hf.val 1 73 _ d1 (by kernel_rfl) (by kernel_rfl) (by kernel_rfl); clear d1; clear hd hf; intro K hK; go_simp; go_at_call 34; go_split_ands; (with_reducible refine Calls.mono (HP2.out _ _ d0) ?_); rintro e w2 ⟨x, rfl, e2, hx⟩; exact hK.out _ _ e2 hx (FreshIf.no rfl) }) ?_
    refine RgAll.cons (by { (with_reducible refine RgL.mk (by rfl) ?_); intro v a w' hE hd hf; have d0 : (IsT2 (IsI 128 cz) (IsV (.int .i64 i))) (v 2) w' := hd 2 (by kernel_rfl); have ev0 := hf.val 2 74 _ rfl (by kernel_rfl) (by kernel_rfl) (by kernel_rfl); clear hd hf; intro K hK; go_simp; exact hK.out _ _ (Ext.refl _) d0 (FreshIf.no rfl) }) ?_
    refine RgAll.cons (by { (with_reducible refine RgL.mk (by rfl) ?_); intro v a w' hE hd hf; have d0 : (IsT2 (IsI 128 cz) (IsV (.int .i64 i))) (v 3) w' := hd 3 (by kernel_rfl); obtain ⟨x0, x1, z0, y0, y1⟩ := d0; have ev0 := hf.val 3 71 _ z0 (by kernel_rfl) (by kernel_rfl) (by kernel_rfl); clear z0; clear hd hf; intro K hK; go_simp; exact hK.out _ _ (Ext.refl _) y0 (FreshIf.no rfl) }) ?_
    refine RgAll.cons (by { (with_reducible refine RgL.mk (by rfl) ?_); intro v a w' hE hd hf; have d0 : (IsT2 (IsI 128 cz) (IsV (.int .i64 i))) (v 3) w' := hd 3 (by kernel_rfl); obtain ⟨x0, x1, z0, y0, y1⟩ := d0; have ev0 := hf.val 3 71 _ z0 (by kernel_rfl) (by kernel_rfl) (by kernel_rfl); clear z0; clear hd hf; intro K hK; go_simp; exact hK.out _ _ (Ext.refl _) y1 (FreshIf.no rfl) }) ?_
    refine RgAll.cons (by { (with_reducible refine RgL.mk (by rfl) ?_); intro v a w' hE hd hf; skip; clear hd hf; intro K hK; go_simp; refine hK.out _ _ ((Ext.refl _).alloc _) ⟨_, rfl, hE.size, Bx.new _ _ _ _ _⟩ FreshIf.yes }) ?_
    exact RgAll.nil
  intro v W18 e1 hΦ _
  replace S := S.mono e1
  obtain ⟨s75, a75, n75, c75, v4, h75⟩ := (hΦ 4 (by decide) : IsI 128 cz (v 4) W18)
  have v5 : v 5 = .int .i64 i := hΦ 5 (by decide)
  obtain ⟨g22, v6, q20, b19⟩ := (hΦ 6 (by decide) : IsB W17 (v 6) W18)
  replace S := S.addN (Apart.old hl.out q20) (Nat.le_trans hw q20) b19
  clear b19
  simp only [layL, Act.put, List.setIfInBounds_toArray, List.set_cons_zero, List.set_cons_succ, Nat.reduceAdd]
  rw [v4, v5, v6]
  clear v4 v5 v6
  clear hΦ
  clear hl hw
  clear e1
  obtain ⟨s8, a8, n8, c8, b8, _⟩ := S.at 0 (g22) (IsI 0 0) rfl; have F1 := b8.c0; have F2 := b8.c1; have F3 := b8.f0; have F4 := b8.f1
  refine wpList_step fun K hK => ?_; go_simp; refine hK _ _ ?_; clear hK K
  clear F1 F2 F3 F4 b8
  obtain ⟨W19, hW, S2, G2, _⟩ := S.put 0 (g22) (IsI 0 0) (IsI 128 cz) rfl s75 a75 n75 c75 (IsI.gstb _ _) ⟨_, _, _, _, rfl, h75⟩
  rw [← hW]; clear hW S
  have S : St w W19 [(g22, IsI 128 cz), (g20, IsI 128 cz), (g19, IsI 2 zb), (g17, IsI 8 pz), (g15, IsI 8 pz), (g13, IsI 8 tz), (g12, IsI 8 sz), (g10, IsI 8 tz), (g9, IsI 8 sz), (g8, IsI 8 za), (w.heap.size, IsR s1 x1)] := S2; clear S2 G2
  clear h75
  refine wpList_step fun K hK => ?_; go_simp; refine hK _ _ ?_; clear hK K
  refine wpList_nil ?_
  go_upto_region 12 with (fail)
  refine wp_region_rgs 37 [some 77, some 78, some 79, some 80, some 81, some 82, some 83, some 84, some 85, some 86, some 87, some 88, some 89, some 90, some 91, some 92, some 93, some 94, some 95, some 96, some 97, some 98, some 99, some 100, some 101, some 102, some 103, some 104, some 105, some 106, some 107, some 108, some 109, some 110, some 111, some 112, some 113] [IsV (.int .i64 e), IsV (.int .i64 e), IsV (.bool false), IsV (.bool false), IsV (.int .i64 1), IsV (.int .i64 1), IsV (.bool false), IsV (.bool false), IsV (.bool false), IsV (.int .i64 i), IsV (.int .i64 i), IsV (.bool false), IsV (.bool false), IsV (.bool false), IsI 8 sz, IsI 8 sz, IsV (.bool true), IsV (.bool false), IsV (.bool false), IsV (.bool false), IsI 8 tz, IsI 8 tz, IsV (.bool true), IsV (.bool false), IsV (.bool false), IsV (.bool false), IsI 8 pz, IsI 8 pz, IsV (.bool true), IsV (.bool false), IsV (.bool false), IsV (.bool false), IsI 128 cz, IsI 128 cz, IsV (.bool true), IsV (.bool false), IsV (.bool false)] [] (by decide) (by kernel_rfl) (by kernel_rfl) (by kernel_rfl) ?_ ?_ ?_ ?_
  · repeat' (first | exact trivial | exact IsV.stb _ | exact IsW.stb _ | exact IsWk.stb _ _ | exact IsI.stb _ _ | exact IsB.stb _ | exact IsR.stb _ _ | exact IsMag.stb _ _ | exact IsPos.stb | apply IsT3.stb | apply IsT2.stb | apply And.intro)
  · exact (fun _ h => by cases h)
  · refine RgAll.cons (by { (with_reducible refine RgL.mk (by rfl) ?_); intro v a w' hE hd hf; have ev0 := hf.lit 11 (.int .i64 e) (by kernel_rfl) (by kernel_rfl); clear hd hf; intro K hK; go_simp; exact hK.out _ _ (Ext.refl _) rfl (FreshIf.no rfl) }) ?_
    refine RgAll.cons (by { (with_reducible refine RgL.mk (by rfl) ?_); intro v a w' hE hd hf; have ev0 := hf.lit 14 (.int .i64 e) (by kernel_rfl) (by kernel_rfl); clear hd hf; intro K hK; go_simp; exact hK.out _ _ (Ext.refl _) rfl (FreshIf.no rfl) }) ?_
    refine RgAll.cons (by { (with_reducible refine RgL.mk (by rfl) ?_); intro v a w' hE hd hf; have d0 : v 0 = .int .i64 e := hd 0 (by kernel_rfl); have ev0 := hf.val 0 77 _ d0 (by kernel_rfl) (by kernel_rfl) (by kernel_rfl); clear d0; have d1 : v 1 = .int .i64 e := hd 1 (by kernel_rfl); have ev1 := hf.val 1 78 _ d1 (by kernel_rfl) (by kernel_rfl) (by kernel_rfl); clear d1; clear hd hf; intro K hK; go_simp; exact hK.out _ _ (Ext.refl _) rfl (FreshIf.no rfl) }) ?_
    refine RgAll.cons (by { (with_reducible refine RgL.mk (by rfl) ?_); intro v a w' hE hd hf; have d0 : v 2 = .bool false := hd 2 (by kernel_rfl); have ev0 := hf.val 2 79 _ d0 (by kernel_rfl) (by kernel_rfl) (by kernel_rfl); clear d0; clear hd hf; intro K hK; go_simp; exact hK.out _ _ (Ext.refl _) rfl (FreshIf.no rfl) }) ?_
    refine RgAll.cons (by { (with_reducible refine RgL.mkG 3 80 false (by rfl) (by kernel_rfl) (by kernel_rfl) (by kernel_rfl) (by kernel_rfl) (by kernel_rfl) ?_ ?_); (focus (intro _ _ h; exact h)); intro v a w' hE hd hf; have ev0 := hf.lit 16 (.int .i64 1) (by kernel_rfl) (by kernel_rfl); clear hd hf; intro K hK; go_simp; exact hK.out _ _ (Ext.refl _) rfl (FreshIf.no rfl) }) ?_
    refine RgAll.cons (by { (with_reducible refine RgL.mkG 3 80 false (by rfl) (by kernel_rfl) (by kernel_rfl) (by kernel_rfl) (by kernel_rfl) (by kernel_rfl) ?_ ?_); (focus (intro _ _ h; exact h)); intro v a w' hE hd hf; have ev0 := hf.lit 18 (.int .i64 1) (by kernel_rfl) (by kernel_rfl); clear hd hf; intro K hK; go_simp; exact hK.out _ _ (Ext.refl _) rfl (FreshIf.no rfl) }) ?_
    refine RgAll.cons (by { (with_reducible refine RgL.mkG 3 80 false (by rfl) (by kernel_rfl) (by kernel_rfl) (by kernel_rfl) (by kernel_rfl) (by kernel_rfl) ?_ ?_); (focus (intro _ _ h; exact h)); intro v a w' hE hd hf; have d0 : v 4 = .int .i64 1 := hd 4 (by kernel_rfl); have ev0 := hf.val 4 81 _ d0 (by kernel_rfl) (by kernel_rfl) (by kernel_rfl); clear d0; have d1 : v 5 = .int .i64 1 := hd 5 (by kernel_rfl); have ev1 := hf.val 5 82 _ d1 (by kernel_rfl) (by kernel_rfl) (by kernel_rfl); clear d1; clear hd hf; intro K hK; go_simp; exact hK.out _ _ (Ext.refl _) rfl (FreshIf.no rfl) }) ?_
    refine RgAll.cons (by { (with_reducible refine RgL.mk (by rfl) ?_); intro v a w' hE hd hf; have d0 : v 3 = .bool false := hd 3 (by kernel_rfl); have ev0 := hf.val 3 80 _ d0 (by kernel_rfl) (by kernel_rfl) (by kernel_rfl); clear d0; have d1 : v 6 = .bool false := hd 6 (by kernel_rfl); have ev1 := hf.val 6 83 _ d1 (by kernel_rfl) (by kernel_rfl) (by kernel_rfl); clear d1; clear hd hf; intro K hK; go_simp; exact hK.out _ _ (Ext.refl _) rfl (FreshIf.no rfl) }) ?_
    refine RgAll.cons (by { (with_reducible refine RgL.mk (by rfl) ?_); intro v a w' hE hd hf; have d0 : v 7 = .bool false := hd 7 (by kernel_rfl); have ev0 := hf.val 7 84 _ d0 (by kernel_rfl) (by kernel_rfl) (by kernel_rfl); clear d0; clear hd hf; intro K hK; go_simp; exact hK.out _ _ (Ext.refl _) rfl (FreshIf.no rfl) }) ?_
    refine RgAll.cons (by { (with_reducible refine RgL.mkG 8 85 false (by rfl) (by kernel_rfl) (by kernel_rfl) (by kernel_rfl) (by kernel_rfl) (by kernel_rfl) ?_ ?_); (focus (intro _ _ h; exact h)); intro v a w' hE hd hf; have ev0 := hf.lit 21 (.int .i64 i) (by kernel_rfl) (by kernel_rfl); clear hd hf; intro K hK; go_simp; exact hK.out _ _ (Ext.refl _) rfl (FreshIf.no rfl) }) ?_
    refine RgAll.cons (by { (with_reducible refine RgL.mkG 8 85 false (by rfl) (by kernel_rfl) (by kernel_rfl) (by kernel_rfl) (by kernel_rfl) (by kernel_rfl) ?_ ?_); (focus (intro _ _ h; exact h)); intro v a w' hE hd hf; have ev0 := hf.lit 23 (.int .i64 i) (by kernel_rfl) (by kernel_rfl); clear hd hf; intro K hK; go_simp; exact hK.out _ _ (Ext.refl _) rfl (FreshIf.no rfl) }) ?_
    refine RgAll.cons (by { (with_reducible refine RgL.mkG 8 85 false (by rfl) (by kernel_rfl) (by kernel_rfl) (by kernel_rfl) (by kernel_rfl) (by kernel_rfl) ?_ ?_); (focus (intro _ _ h; exact h)); intro v a w' hE hd hf; have d0 : v 9 = .int .i64 i := hd 9 (by kernel_rfl); have ev0 := hf.val 9 86 _ d0 (by kernel_rfl) (by kernel_rfl) (by kernel_rfl); clear d0; have d1 : v 10 = .int .i64 i := hd 10 (by kernel_rfl); have ev1 := hf.val 10 87 _ d1 (by kernel_rfl) (by kernel_rfl) (by kernel_rfl); clear d1; clear hd hf; intro K hK; go_simp; exact hK.out _ _ (Ext.refl _) rfl (FreshIf.no rfl) }) ?_
    refine RgAll.cons (by { (with_reducible refine RgL.mk (by rfl) ?_); intro v a w' hE hd hf; have d0 : v 8 = .bool false := hd 8 (by kernel_rfl); have ev0 := hf.val 8 85 _ d0 (by kernel_rfl) (by kernel_rfl) (by kernel_rfl); clear d0; have d1 : v 11 = .bool false := hd 11 (by kernel_rfl); have ev1 := hf.val 11 88 _ d1 (by kernel_rfl) (by kernel_rfl) (by kernel_rfl); clear d1; clear hd hf; intro K hK; go_simp; exact hK.out _ _ (Ext.refl _) rfl (FreshIf.no rfl) }) ?_
    refine RgAll.cons (by { (with_reducible refine RgL.mk (by rfl) ?_); intro v a w' hE hd hf; have d0 : v 12 = .bool false := hd 12 (by kernel_rfl); have ev0 := hf.val 12 89 _ d0 (by kernel_rfl) (by kernel_rfl) (by kernel_rfl); clear d0; clear hd hf; intro K hK; go_simp; exact hK.out _ _ (Ext.refl _) rfl (FreshIf.no rfl) }) ?_
    refine RgAll.cons (by { (with_reducible refine RgL.mkG 13 90 false (by rfl) (by kernel_rfl) (by kernel_rfl) (by kernel_rfl) (by kernel_rfl) (by kernel_rfl) ?_ ?_); (focus (intro _ _ h; exact h)); intro v a w' hE hd hf; have ev0 := hf.lit 9 (.pointer (some ⟨g9, 0, none⟩)) (by kernel_rfl) (by kernel_rfl); obtain ⟨s8, a8, n8, c8, b8, h8⟩ := (S.mono hE).at 8 (g9) (IsI 8 sz) rfl; have L0 := b8.c0; have L1 := b8.c1; clear hd hf; intro K hK; go_simp; exact hK.out _ _ (Ext.refl _) h8 (FreshIf.no rfl) }) ?_
    refine RgAll.cons (by { (with_reducible refine RgL.mkG 13 90 false (by rfl) (by kernel_rfl) (by kernel_rfl) (by kernel_rfl) (by kernel_rfl) (by kernel_rfl) ?_ ?_); (focus (intro _ _ h; exact h)); intro v a w' hE hd hf; have ev0 := hf.lit 12 (.pointer (some ⟨g12, 0, none⟩)) (by kernel_rfl) (by kernel_rfl); obtain ⟨s8, a8, n8, c8, b8, h8⟩ := (S.mono hE).at 6 (g12) (IsI 8 sz) rfl; have L0 := b8.c0; have L1 := b8.c1; clear hd hf; intro K hK; go_simp; exact hK.out _ _ (Ext.refl _) h8 (FreshIf.no rfl) }) ?_
    refine RgAll.cons (by { (with_reducible refine RgL.mkG 13 90 false (by rfl) (by kernel_rfl) (by kernel_rfl) (by kernel_rfl) (by kernel_rfl) (by kernel_rfl) ?_ ?_); (focus (intro _ _ h; exact h)); intro v a w' hE hd hf; have d0 : (IsI 8 sz) (v 14) w' := hd 14 (by kernel_rfl); have ev0 := hf.val 14 91 _ rfl (by kernel_rfl) (by kernel_rfl) (by kernel_rfl); have d1 : (IsI 8 sz) (v 15) w' := hd 15 (by kernel_rfl); have ev1 := hf.val 15 92 _ rfl (by kernel_rfl) (by kernel_rfl) (by kernel_rfl); clear hd hf; intro K hK; go_simp; go_at_call 11; go_split_ands; (with_reducible refine Calls.mono (Same_t d0 d1 (rfl) (by decide)) ?_); rintro e w2 ⟨x, rfl, e2, hx⟩; exact hK.out _ _ e2 hx (FreshIf.no rfl) }) ?_
    refine RgAll.cons (by { (with_reducible refine RgL.mkG 13 90 false (by rfl) (by kernel_rfl) (by kernel_rfl) (by kernel_rfl) (by kernel_rfl) (by kernel_rfl) ?_ ?_); (focus (intro _ _ h; exact h)); intro v a w' hE hd hf; have d0 : v 16 = .bool true := hd 16 (by kernel_rfl); have ev0 := hf.val 16 93 _ d0 (by kernel_rfl) (by kernel_rfl) (by kernel_rfl); clear d0; clear hd hf; intro K hK; go_simp; exact hK.out _ _ (Ext.refl _) rfl (FreshIf.no rfl) }) ?_
    refine RgAll.cons (by { (with_reducible refine RgL.mk (by rfl) ?_); intro v a w' hE hd hf; have d0 : v 13 = .bool false := hd 13 (by kernel_rfl); have ev0 := hf.val 13 90 _ d0 (by kernel_rfl) (by kernel_rfl) (by kernel_rfl); clear d0; have d1 : v 17 = .bool false := hd 17 (by kernel_rfl); have ev1 := hf.val 17 94 _ d1 (by kernel_rfl) (by kernel_rfl) (by kernel_rfl); clear d1; clear hd hf; intro K hK; go_simp; exact hK.out _ _ (Ext.refl _) rfl (FreshIf.no rfl) }) ?_
    refine RgAll.cons (by { (with_reducible refine RgL.mk (by rfl) ?_); intro v a w' hE hd hf; have d0 : v 18 = .bool false := hd 18 (by kernel_rfl); have ev0 := hf.val 18 95 _ d0 (by kernel_rfl) (by kernel_rfl) (by kernel_rfl); clear d0; clear hd hf; intro K hK; go_simp; exact hK.out _ _ (Ext.refl _) rfl (FreshIf.no rfl) }) ?_
    refine RgAll.cons (by { (with_reducible refine RgL.mkG 19 96 false (by rfl) (by kernel_rfl) (by kernel_rfl) (by kernel_rfl) (by kernel_rfl) (by kernel_rfl) ?_ ?_); (focus (intro _ _ h; exact h)); intro v a w' hE hd hf; have ev0 := hf.lit 10 (.pointer (some ⟨g10, 0, none⟩)) (by kernel_rfl) (by kernel_rfl); obtain ⟨s8, a8, n8, c8, b8, h8⟩ := (S.mono hE).at 7 (g10) (IsI 8 tz) rfl; have L0 := b8.c0; have L1 := b8.c1; clear hd hf; intro K hK; go_simp; exact hK.out _ _ (Ext.refl _) h8 (FreshIf.no rfl) }) ?_
    refine RgAll.cons (by { (with_reducible refine RgL.mkG 19 96 false (by rfl) (by kernel_rfl) (by kernel_rfl) (by kernel_rfl) (by kernel_rfl) (by kernel_rfl) ?_ ?_); (focus (intro _ _ h; exact h)); intro v a w' hE hd hf; have ev0 := hf.lit 13 (.pointer (some ⟨g13, 0, none⟩)) (by kernel_rfl) (by kernel_rfl); obtain ⟨s8, a8, n8, c8, b8, h8⟩ := (S.mono hE).at 5 (g13) (IsI 8 tz) rfl; have L0 := b8.c0; have L1 := b8.c1; clear hd hf; intro K hK; go_simp; exact hK.out _ _ (Ext.refl _) h8 (FreshIf.no rfl) }) ?_
    refine RgAll.cons (by { (with_reducible refine RgL.mkG 19 96 false (by rfl) (by kernel_rfl) (by kernel_rfl) (by kernel_rfl) (by kernel_rfl) (by kernel_rfl) ?_ ?_); (focus (intro _ _ h; exact h)); intro v a w' hE hd hf; have d0 : (IsI 8 tz) (v 20) w' := hd 20 (by kernel_rfl); have ev0 := hf.val 20 97 _ rfl (by kernel_rfl) (by kernel_rfl) (by kernel_rfl); have d1 : (IsI 8 tz) (v 21) w' := hd 21 (by kernel_rfl); have ev1 := hf.val 21 98 _ rfl (by kernel_rfl) (by kernel_rfl) (by kernel_rfl); clear hd hf; intro K hK; go_simp; go_at_call 11; go_split_ands; (with_reducible refine Calls.mono (Same_t d0 d1 (rfl) (by decide)) ?_); rintro e w2 ⟨x, rfl, e2, hx⟩; exact hK.out _ _ e2 hx (FreshIf.no rfl) }) ?_
    refine RgAll.cons (by { (with_reducible refine RgL.mkG 19 96 false (by rfl) (by kernel_rfl) (by kernel_rfl) (by kernel_rfl) (by kernel_rfl) (by kernel_rfl) ?_ ?_); (focus (intro _ _ h; exact h)); intro v a w' hE hd hf; have d0 : v 22 = .bool true := hd 22 (by kernel_rfl); have ev0 := hf.val 22 99 _ d0 (by kernel_rfl) (by kernel_rfl) (by kernel_rfl); clear d0; clear hd hf; intro K hK; go_simp; exact hK.out _ _ (Ext.refl _) rfl (FreshIf.no rfl) }) ?_
    refine RgAll.cons (by { (with_reducible refine RgL.mk (by rfl) ?_); intro v a w' hE hd hf; have d0 : v 19 = .bool false := hd 19 (by kernel_rfl); have ev0 := hf.val 19 96 _ d0 (by kernel_rfl) (by kernel_rfl) (by kernel_rfl); clear d0; have d1 : v 23 = .bool false := hd 23 (by kernel_rfl); have ev1 := hf.val 23 100 _ d1 (by kernel_rfl) (by kernel_rfl) (by kernel_rfl); clear d1; clear hd hf; intro K hK; go_simp; exact hK.out _ _ (Ext.refl _) rfl (FreshIf.no rfl) }) ?_
    refine RgAll.cons (by { (with_reducible refine RgL.mk (by rfl) ?_); intro v a w' hE hd hf; have d0 : v 24 = .bool false := hd 24 (by kernel_rfl); have ev0 := hf.val 24 101 _ d0 (by kernel_rfl) (by kernel_rfl) (by kernel_rfl); clear d0; clear hd hf; intro K hK; go_simp; exact hK.out _ _ (Ext.refl _) rfl (FreshIf.no rfl) }) ?_
    refine RgAll.cons (by { (with_reducible refine RgL.mkG 25 102 false (by rfl) (by kernel_rfl) (by kernel_rfl) (by kernel_rfl) (by kernel_rfl) (by kernel_rfl) ?_ ?_); (focus (intro _ _ h; exact h)); intro v a w' hE hd hf; have ev0 := hf.lit 15 (.pointer (some ⟨g15, 0, none⟩)) (by kernel_rfl) (by kernel_rfl); obtain ⟨s8, a8, n8, c8, b8, h8⟩ := (S.mono hE).at 4 (g15) (IsI 8 pz) rfl; have L0 := b8.c0; have L1 := b8.c1; clear hd hf; intro K hK; go_simp; exact hK.out _ _ (Ext.refl _) h8 (FreshIf.no rfl) }) ?_
    refine RgAll.cons (by { (with_reducible refine RgL.mkG 25 102 false (by rfl) (by kernel_rfl) (by kernel_rfl) (by kernel_rfl) (by kernel_rfl) (by kernel_rfl) ?_ ?_); (focus (intro _ _ h; exact h)); intro v a w' hE hd hf; have ev0 := hf.lit 17 (.pointer (some ⟨g17, 0, none⟩)) (by kernel_rfl) (by kernel_rfl); obtain ⟨s8, a8, n8, c8, b8, h8⟩ := (S.mono hE).at 3 (g17) (IsI 8 pz) rfl; have L0 := b8.c0; have L1 := b8.c1; clear hd hf; intro K hK; go_simp; exact hK.out _ _ (Ext.refl _) h8 (FreshIf.no rfl) }) ?_
    refine RgAll.cons (by { (with_reducible refine RgL.mkG 25 102 false (by rfl) (by kernel_rfl) (by kernel_rfl) (by kernel_rfl) (by kernel_rfl) (by kernel_rfl) ?_ ?_); (focus (intro _ _ h; exact h)); intro v a w' hE hd hf; have d0 : (IsI 8 pz) (v 26) w' := hd 26 (by kernel_rfl); have ev0 := hf.val 26 103 _ rfl (by kernel_rfl) (by kernel_rfl) (by kernel_rfl); have d1 : (IsI 8 pz) (v 27) w' := hd 27 (by kernel_rfl); have ev1 := hf.val 27 104 _ rfl (by kernel_rfl) (by kernel_rfl) (by kernel_rfl); clear hd hf; intro K hK; go_simp; go_at_call 11; go_split_ands; (with_reducible refine Calls.mono (Same_t d0 d1 (rfl) (by decide)) ?_); rintro e w2 ⟨x, rfl, e2, hx⟩; exact hK.out _ _ e2 hx (FreshIf.no rfl) }) ?_
    refine RgAll.cons (by { (with_reducible refine RgL.mkG 25 102 false (by rfl) (by kernel_rfl) (by kernel_rfl) (by kernel_rfl) (by kernel_rfl) (by kernel_rfl) ?_ ?_); (focus (intro _ _ h; exact h)); intro v a w' hE hd hf; have d0 : v 28 = .bool true := hd 28 (by kernel_rfl); have ev0 := hf.val 28 105 _ d0 (by kernel_rfl) (by kernel_rfl) (by kernel_rfl); clear d0; clear hd hf; intro K hK; go_simp; exact hK.out _ _ (Ext.refl _) rfl (FreshIf.no rfl) }) ?_
    refine RgAll.cons (by { (with_reducible refine RgL.mk (by rfl) ?_); intro v a w' hE hd hf; have d0 : v 25 = .bool false := hd 25 (by kernel_rfl); have ev0 := hf.val 25 102 _ d0 (by kernel_rfl) (by kernel_rfl) (by kernel_rfl); clear d0; have d1 : v 29 = .bool false := hd 29 (by kernel_rfl); have ev1 := hf.val 29 106 _ d1 (by kernel_rfl) (by kernel_rfl) (by kernel_rfl); clear d1; clear hd hf; intro K hK; go_simp; exact hK.out _ _ (Ext.refl _) rfl (FreshIf.no rfl) }) ?_
    refine RgAll.cons (by { (with_reducible refine RgL.mk (by rfl) ?_); intro v a w' hE hd hf; have d0 : v 30 = .bool false := hd 30 (by kernel_rfl); have ev0 := hf.val 30 107 _ d0 (by kernel_rfl) (by kernel_rfl) (by kernel_rfl); clear d0; clear hd hf; intro K hK; go_simp; exact hK.out _ _ (Ext.refl _) rfl (FreshIf.no rfl) }) ?_
    refine RgAll.cons (by { (with_reducible refine RgL.mkG 31 108 false (by rfl) (by kernel_rfl) (by kernel_rfl) (by kernel_rfl) (by kernel_rfl) (by kernel_rfl) ?_ ?_); (focus (intro _ _ h; exact h)); intro v a w' hE hd hf; have ev0 := hf.lit 20 (.pointer (some ⟨g20, 0, none⟩)) (by kernel_rfl) (by kernel_rfl); obtain ⟨s8, a8, n8, c8, b8, h8⟩ := (S.mono hE).at 1 (g20) (IsI 128 cz) rfl; have L0 := b8.c0; have L1 := b8.c1; clear hd hf; intro K hK; go_simp; exact hK.out _ _ (Ext.refl _) h8 (FreshIf.no rfl) }) ?_
    refine RgAll.cons (by { (with_reducible refine RgL.mkG 31 108 false (by rfl) (by kernel_rfl) (by kernel_rfl) (by kernel_rfl) (by kernel_rfl) (by kernel_rfl) ?_ ?_); (focus (intro _ _ h; exact h)); intro v a w' hE hd hf; have ev0 := hf.lit 22 (.pointer (some ⟨g22, 0, none⟩)) (by kernel_rfl) (by kernel_rfl); obtain ⟨s8, a8, n8, c8, b8, h8⟩ := (S.mono hE).at 0 (g22) (IsI 128 cz) rfl; have L0 := b8.c0; have L1 := b8.c1; clear hd hf; intro K hK; go_simp; exact hK.out _ _ (Ext.refl _) h8 (FreshIf.no rfl) }) ?_
    refine RgAll.cons (by { (with_reducible refine RgL.mkG 31 108 false (by rfl) (by kernel_rfl) (by kernel_rfl) (by kernel_rfl) (by kernel_rfl) (by kernel_rfl) ?_ ?_); (focus (intro _ _ h; exact h)); intro v a w' hE hd hf; have d0 : (IsI 128 cz) (v 32) w' := hd 32 (by kernel_rfl); have ev0 := hf.val 32 109 _ rfl (by kernel_rfl) (by kernel_rfl) (by kernel_rfl); have d1 : (IsI 128 cz) (v 33) w' := hd 33 (by kernel_rfl); have ev1 := hf.val 33 110 _ rfl (by kernel_rfl) (by kernel_rfl) (by kernel_rfl); clear hd hf; intro K hK; go_simp; go_at_call 11; go_split_ands; (with_reducible refine Calls.mono (Same_t d0 d1 (rfl) (by decide)) ?_); rintro e w2 ⟨x, rfl, e2, hx⟩; exact hK.out _ _ e2 hx (FreshIf.no rfl) }) ?_
    refine RgAll.cons (by { (with_reducible refine RgL.mkG 31 108 false (by rfl) (by kernel_rfl) (by kernel_rfl) (by kernel_rfl) (by kernel_rfl) (by kernel_rfl) ?_ ?_); (focus (intro _ _ h; exact h)); intro v a w' hE hd hf; have d0 : v 34 = .bool true := hd 34 (by kernel_rfl); have ev0 := hf.val 34 111 _ d0 (by kernel_rfl) (by kernel_rfl) (by kernel_rfl); clear d0; clear hd hf; intro K hK; go_simp; exact hK.out _ _ (Ext.refl _) rfl (FreshIf.no rfl) }) ?_
    refine RgAll.cons (by { (with_reducible refine RgL.mk (by rfl) ?_); intro v a w' hE hd hf; have d0 : v 31 = .bool false := hd 31 (by kernel_rfl); have ev0 := hf.val 31 108 _ d0 (by kernel_rfl) (by kernel_rfl) (by kernel_rfl); clear d0; have d1 : v 35 = .bool false := hd 35 (by kernel_rfl); have ev1 := hf.val 35 112 _ d1 (by kernel_rfl) (by kernel_rfl) (by kernel_rfl); clear d1; clear hd hf; intro K hK; go_simp; exact hK.out _ _ (Ext.refl _) rfl (FreshIf.no rfl) }) ?_
    exact RgAll.nil
  intro v W20 e1 hΦ _
  replace S := S.mono e1
  have v36 : v 36 = .bool false := hΦ 36 (by decide)
  simp only [layL, Act.put, List.setIfInBounds_toArray, List.set_cons_zero, List.set_cons_succ, Nat.reduceAdd]
  rw [v36]
  clear v36
  clear hΦ
  clear e1
  refine wpList_nil ?_
  go_upto_region 14 with (fail)
  refine wp_region_rgs 6 [some 114, some 115, some 116, some 117, some 118, some 119] [IsV (.int .i64 1), IsV (.bool true), IsV (.bool true), IsV (undef), IsV (undef), IsV (.bool true)] [] (by decide) (by kernel_rfl) (by kernel_rfl) (by kernel_rfl) ?_ ?_ ?_ ?_
  · repeat' (first | exact trivial | exact IsV.stb _ | exact IsW.stb _ | exact IsWk.stb _ _ | exact IsI.stb _ _ | exact IsB.stb _ | exact IsR.stb _ _ | exact IsMag.stb _ _ | exact IsPos.stb | apply IsT3.stb | apply IsT2.stb | apply And.intro)
  · exact (fun _ h => by cases h)
  · refine RgAll.cons (by { (with_reducible refine RgL.mk (by rfl) ?_); intro v a w' hE hd hf; have ev0 := hf.lit 16 (.int .i64 1) (by kernel_rfl) (by kernel_rfl); clear hd hf; intro K hK; go_simp; exact hK.out _ _ (Ext.refl _) rfl (FreshIf.no rfl) }) ?_
    refine RgAll.cons (by { (with_reducible refine RgL.mk (by rfl) ?_); intro v a w' hE hd hf; have d0 : v 0 = .int .i64 1 := hd 0 (by kernel_rfl); have ev0 := hf.val 0 114 _ d0 (by kernel_rfl) (by kernel_rfl) (by kernel_rfl); clear d0; clear hd hf; intro K hK; go_simp; exact hK.out _ _ (Ext.refl _) rfl (FreshIf.no rfl) }) ?_
    refine RgAll.cons (by { (with_reducible refine RgL.mk (by rfl) ?_); intro v a w' hE hd hf; have d0 : v 1 = .bool true := hd 1 (by kernel_rfl); have ev0 := hf.val 1 115 _ d0 (by kernel_rfl) (by kernel_rfl) (by kernel_rfl); clear d0; clear hd hf; intro K hK; go_simp; exact hK.out _ _ (Ext.refl _) rfl (FreshIf.no rfl) }) ?_
    refine RgAll.cons (by { (with_reducible refine RgL.mkN 2 116 true (by kernel_rfl) (by kernel_rfl) (by kernel_rfl) (by kernel_rfl) (by kernel_rfl) (by kernel_rfl) ?_ (by kernel_rfl) ?_); (focus (intro _ _ h; exact h)); (focus (intro _; rfl)) }) ?_
    refine RgAll.cons (by { (with_reducible refine RgL.mkN 2 116 true (by kernel_rfl) (by kernel_rfl) (by kernel_rfl) (by kernel_rfl) (by kernel_rfl) (by kernel_rfl) ?_ (by kernel_rfl) ?_); (focus (intro _ _ h; exact h)); (focus (intro _; rfl)) }) ?_
    refine RgAll.cons (by { (with_reducible refine RgL.mk (by rfl) ?_); intro v a w' hE hd hf; have d0 : v 2 = .bool true := hd 2 (by kernel_rfl); have ev0 := hf.val 2 116 _ d0 (by kernel_rfl) (by kernel_rfl) (by kernel_rfl); clear d0; clear hd hf; intro K hK; go_simp; exact hK.out _ _ (Ext.refl _) rfl (FreshIf.no rfl) }) ?_
    exact RgAll.nil
  intro v W21 e1 hΦ _
  replace S := S.mono e1
  have v5 : v 5 = .bool true := hΦ 5 (by decide)
  simp only [layL, Act.put, List.setIfInBounds_toArray, List.set_cons_zero, List.set_cons_succ, Nat.reduceAdd]
  rw [v5]
  clear v5
  clear hΦ
  clear e1
  refine wpList_nil ?_
  go_upto_region 15 with (fail)
  refine wp_region_rgs 2 [some 120, some 6] [IsV (.bool true), IsV (.bool true)] [] (by decide) (by kernel_rfl) (by kernel_rfl) (by kernel_rfl) ?_ ?_ ?_ ?_
  · repeat' (first | exact trivial | exact IsV.stb _ | exact IsW.stb _ | exact IsWk.stb _ _ | exact IsI.stb _ _ | exact IsB.stb _ | exact IsR.stb _ _ | exact IsMag.stb _ _ | exact IsPos.stb | apply IsT3.stb | apply IsT2.stb | apply And.intro)
  · exact (fun _ h => by cases h)
  · refine RgAll.cons (by { (with_reducible refine RgL.mk (by rfl) ?_); intro v a w' hE hd hf; have ev0 := hf.lit 7 (.bool true) (by kernel_rfl) (by kernel_rfl); clear hd hf; intro K hK; go_simp; exact hK.out _ _ (Ext.refl _) rfl (FreshIf.no rfl) }) ?_
    refine RgAll.cons (by { (with_reducible refine RgL.mk (by rfl) ?_); intro v a w' hE hd hf; have d0 : v 0 = .bool true := hd 0 (by kernel_rfl); have ev0 := hf.val 0 120 _ d0 (by kernel_rfl) (by kernel_rfl) (by kernel_rfl); clear d0; clear hd hf; intro K hK; go_simp; exact hK.out _ _ (Ext.refl _) rfl (FreshIf.no rfl) }) ?_
    exact RgAll.nil
  intro v W22 e1 hΦ _
  replace S := S.mono e1
  have v1 : v 1 = .bool true := hΦ 1 (by decide)
  simp only [layL, Act.put, List.setIfInBounds_toArray, List.set_cons_zero, List.set_cons_succ, Nat.reduceAdd]
  rw [v1]
  clear v1
  clear hΦ
  clear e1
  refine wpList_nil ?_
  go_wp2_with fail
  exact bodyPost_ret (v := .bool true) (by simp [results, Tryz.results4, go_sem]) rfl (⟨_, rfl, S.ext, rfl⟩)
set_option maxRecDepth 100000 in
set_option maxHeartbeats 8000000 in
theorem Roots_big (w : World) (s1 : Bool) (a1 : Option Addr) (n1 c1 : Nat) (x1 : List Nat) (kk nn : Int) (h1 : Wd w a1 n1 c1 x1) (ht : Tab w) (pz : Int) (za zb sz tz cz e i : Int) (ha : rawZ s1 x1 8 = za) (hb : rawZ s1 (x1.take (min x1.length 2)) 2 = zb)
    (hS : ∀ (x : Value) (w : World), IsI 8 za x w → Calls Tryz.prog 29 #[x] w (Ret w (IsT3 (IsI 8 sz) (IsI 8 tz) (IsV (.int .i64 e)))))
    (hS2 : ∀ (x : Value) (w : World), IsI 8 za x w → Calls Tryz.prog 30 #[x] w (Ret w (IsT3 (IsI 8 sz) (IsI 8 tz) (IsV (.int .i64 e)))))
    (hR : ∀ (x : Value) (w : World), IsI 8 za x w → Calls Tryz.prog 31 #[x, .int .i64 kk] w (Ret w (IsT2 (IsI 8 pz) (IsV (.int .i64 0)))))
    (hR2 : ∀ (x : Value) (w : World), IsI 8 za x w → Calls Tryz.prog 32 #[x, .int .i64 kk] w (Ret w (IsT2 (IsI 8 pz) (IsV (.int .i64 0)))))
    (hP : ∀ (x : Value) (w : World), IsI 2 zb x w → Calls Tryz.prog 33 #[x, .int .i64 nn] w (Ret w (IsT2 (IsI 128 cz) (IsV (.int .i64 i)))))
    (hP2 : ∀ (x : Value) (w : World), IsI 2 zb x w → Calls Tryz.prog 34 #[x, .int .i64 nn] w (Ret w (IsT2 (IsI 128 cz) (IsV (.int .i64 i))))) (hk : 40 < kk) :
    Calls Tryz.prog 4 #[.agg #[.bool s1, .slice a1 n1 c1], .int .i64 kk, .int .i64 nn] w (Ret w (IsV (.bool true))) := by
  obtain ⟨m, hm⟩ : ∃ m, m = min x1.length 2 := ⟨_, rfl⟩
  rw [← hm] at hb
  have Ha := hid ha
  have Hb := hid hb
  have HS := hid hS
  have HS2 := hid hS2
  have HR := hid hR
  have HR2 := hid hR2
  have HP := hid hP
  have HP2 := hid hP2
  have HMI := hid (show min (x1.length : Int) 2 = (m : Int) by omega)
  have HML := hid (show m ≤ x1.length by omega)
  clear ha hb hS hS2 hR hR2 hP hP2 hm
  have HK := hid (show decide ((40 : Int) < kk) = true by simpa using hk)
  clear hk
  obtain ⟨W, hW, S⟩ : ∃ W, W = w.alloc (.cells #[.bool s1, .slice a1 n1 c1] 24) ∧ St w W [(w.heap.size, IsR s1 x1)] := ⟨_, rfl, ((St.start w).new' (w.heap.size) (by simp) s1 a1 n1 c1 24 (IsR s1 x1) (IsR.gstb _ _) ⟨_, _, _, rfl, h1⟩)⟩
  clear h1
  go_enter Tryz.func4, Tryz.ntmps4
  go_upto_region 1 with (fail)
  rw [← hW]
  clear hW
  refine wp_region_rgs 2 [some 25, some 7] [IsV (.bool true), IsV (.bool true)] [] (by decide) (by kernel_rfl) (by kernel_rfl) (by kernel_rfl) ?_ ?_ ?_ ?_
  · repeat' (first | exact trivial | exact IsV.stb _ | exact IsW.stb _ | exact IsWk.stb _ _ | exact IsI.stb _ _ | exact IsB.stb _ | exact IsR.stb _ _ | exact IsMag.stb _ _ | exact IsPos.stb | apply IsT3.stb | apply IsT2.stb | apply And.intro)
  · exact (fun _ h => by cases h)
  · refine RgAll.cons (by { (with_reducible refine RgL.mk (by rfl) ?_); intro v a w' hE hd hf; skip; clear hd hf; intro K hK; go_simp; go_at_call 5; go_split_ands; (with_reducible refine Calls.mono (examples_f _ (ht.ext (S.ext.trans hE))) ?_); rintro e w2 ⟨x, rfl, e2, hx⟩; exact hK.out _ _ e2 hx (FreshIf.no rfl) }) ?_
    refine RgAll.cons (by { (with_reducible refine RgL.mk (by rfl) ?_); intro v a w' hE hd hf; have d0 : v 0 = .bool true := hd 0 (by kernel_rfl); have ev0 := hf.val 0 25 _ d0 (by kernel_rfl) (by kernel_rfl) (by kernel_rfl); clear d0; clear hd hf; intro K hK; go_simp; exact hK.out _ _ (Ext.refl _) rfl (FreshIf.no rfl) }) ?_
    exact RgAll.nil
  intro v W1 e1 hΦ _
  replace S := S.mono e1
  have v1 : v 1 = .bool true := hΦ 1 (by decide)
  simp only [layL, Act.put, List.setIfInBounds_toArray, List.set_cons_zero, List.set_cons_succ, Nat.reduceAdd]
  rw [v1]
  clear v1
  clear hΦ
  clear e1
  refine wpList_nil ?_
  go_upto_region 4 with (fail)
  have hl := hid S.lt; have hw := S.ext.size
  refine wp_region_rgs 3 [some 28, some 29, some 8] [IsR s1 x1, IsI 8 za, IsB W1] [2] (by decide) (by kernel_rfl) (by kernel_rfl) (by kernel_rfl) ?_ ?_ ?_ ?_
  · repeat' (first | exact trivial | exact IsV.stb _ | exact IsW.stb _ | exact IsWk.stb _ _ | exact IsI.stb _ _ | exact IsB.stb _ | exact IsR.stb _ _ | exact IsMag.stb _ _ | exact IsPos.stb | apply IsT3.stb | apply IsT2.stb | apply And.intro)
  · intro i hi; simp only [List.mem_cons, List.not_mem_nil, or_false] at hi; subst hi; exact IsB.box _
  · refine RgAll.cons (by { (with_reducible refine RgL.mk (by rfl) ?_); intro v a w' hE hd hf; have ev0 := hf.lit 3 (.pointer (some ⟨w.heap.size, 0, none⟩)) (by kernel_rfl) (by kernel_rfl); obtain ⟨s8, a8, n8, c8, b8, h8⟩ := (S.mono hE).at 0 (w.heap.size) (IsR s1 x1) rfl; have L0 := b8.c0; have L1 := b8.c1; clear hd hf; intro K hK; go_simp; exact hK.out _ _ (Ext.refl _) h8 (FreshIf.no rfl) }) ?_
    refine RgAll.cons (by { (with_reducible refine RgL.mk (by rfl) ?_); intro v a w' hE hd hf; have d0 : (IsR s1 x1) (v 0) w' := hd 0 (by kernel_rfl); have ev0 := hf.val 0 28 _ rfl (by kernel_rfl) (by kernel_rfl) (by kernel_rfl); clear hd hf; intro K hK; go_simp; go_at_call 6; go_split_ands; (with_reducible refine Calls.mono (Calls.mono (Made_f d0 (by decide)) fun _ _ h => h.eqz Ha.out) ?_); rintro e w2 ⟨x, rfl, e2, hx⟩; exact hK.out _ _ e2 hx (FreshIf.no rfl) }) ?_
    refine RgAll.cons (by { (with_reducible refine RgL.mk (by rfl) ?_); intro v a w' hE hd hf; skip; clear hd hf; intro K hK; go_simp; refine hK.out _ _ ((Ext.refl _).alloc _) ⟨_, rfl, hE.size, Bx.new _ _ _ _ _⟩ FreshIf.yes }) ?_
    exact RgAll.nil
  intro v W2 e1 hΦ _
  replace S := S.mono e1
  obtain ⟨s29, a29, n29, c29, v1, h29⟩ := (hΦ 1 (by decide) : IsI 8 za (v 1) W2)
  obtain ⟨g8, v2, q2, b1⟩ := (hΦ 2 (by decide) : IsB W1 (v 2) W2)
  replace S := S.addN (Apart.old hl.out q2) (Nat.le_trans hw q2) b1
  clear b1
  simp only [layL, Act.put, List.setIfInBounds_toArray, List.set_cons_zero, List.set_cons_succ, Nat.reduceAdd]
  rw [v1, v2]
  clear v1 v2
  clear hΦ
  clear hl hw
  clear e1
  obtain ⟨s8, a8, n8, c8, b8, _⟩ := S.at 0 (g8) (IsI 0 0) rfl; have F1 := b8.c0; have F2 := b8.c1; have F3 := b8.f0; have F4 := b8.f1
  refine wpList_step fun K hK => ?_; go_simp; refine hK _ _ ?_; clear hK K
  clear F1 F2 F3 F4 b8
  obtain ⟨W3, hW, S2, G2, _⟩ := S.put 0 (g8) (IsI 0 0) (IsI 8 za) rfl s29 a29 n29 c29 (IsI.gstb _ _) ⟨_, _, _, _, rfl, h29⟩
  rw [← hW]; clear hW S
  have S : St w W3 [(g8, IsI 8 za), (w.heap.size, IsR s1 x1)] := S2; clear S2 G2
  clear h29
  refine wpList_nil ?_
  go_upto_region 5 with (fail)
  have hl := hid S.lt; have hw := S.ext.size
  refine wp_region_rgs 8 [some 31, some 32, some 30, some 33, some 34, some 35, some 9, some 10] [IsI 8 za, IsT3 (IsI 8 sz) (IsI 8 tz) (IsV (.int .i64 e)), IsT3 (IsI 8 sz) (IsI 8 tz) (IsV (.int .i64 e)), IsI 8 sz, IsI 8 tz, IsV (.int .i64 e), IsB W3, IsB W3] [6, 7] (by decide) (by kernel_rfl) (by kernel_rfl) (by kernel_rfl) ?_ ?_ ?_ ?_
  · repeat' (first | exact trivial | exact IsV.stb _ | exact IsW.stb _ | exact IsWk.stb _ _ | exact IsI.stb _ _ | exact IsB.stb _ | exact IsR.stb _ _ | exact IsMag.stb _ _ | exact IsPos.stb | apply IsT3.stb | apply IsT2.stb | apply And.intro)
  · intro i hi; simp only [List.mem_cons, List.not_mem_nil, or_false] at hi; rcases hi with rfl | rfl <;> exact IsB.box _
  · refine RgAll.cons (by { (with_reducible refine RgL.mk (by rfl) ?_); intro v a w' hE hd hf; have ev0 := hf.lit 8 (.pointer (some ⟨g8, 0, none⟩)) (by kernel_rfl) (by kernel_rfl); obtain ⟨s8, a8, n8, c8, b8, h8⟩ := (S.mono hE).at 0 (g8) (IsI 8 za) rfl; have L0 := b8.c0; have L1 := b8.c1; clear hd hf; intro K hK; go_simp; exact hK.out _ _ (Ext.refl _) h8 (FreshIf.no rfl) }) ?_
    refine RgAll.cons (by { (with_reducible refine RgL.mk (by rfl) ?_); intro v a w' hE hd hf; have d0 : (IsI 8 za) (v 0) w' := hd 0 (by kernel_rfl); have ev0 := hf.val 0 31 _ rfl (by kernel_rfl) (by kernel_rfl) (by kernel_rfl); clear hd hf; intro K hK; go_simp; go_at_call 29; go_split_ands; (with_reducible refine Calls.mono (HS.out _ _ d0) ?_); rintro e w2 ⟨x, rfl, e2, hx⟩; exact hK.out _ _ e2 hx (FreshIf.no rfl) }) ?_
    refine RgAll.cons (by { (with_reducible refine RgL.mk (by rfl) ?_); intro v a w' hE hd hf; have d0 : (IsT3 (IsI 8 sz) (IsI 8 tz) (IsV (.int .i64 e))) (v 1) w' := hd 1 (by kernel_rfl); have ev0 := hf.val 1 32 _ rfl (by kernel_rfl) (by kernel_rfl) (by kernel_rfl); clear hd hf; intro K hK; go_simp; exact hK.out _ _ (Ext.refl _) d0 (FreshIf.no rfl) }) ?_
    refine RgAll.cons (by { (with_reducible refine RgL.mk (by rfl) ?_); intro v a w' hE hd hf; have d0 : (IsT3 (IsI 8 sz) (IsI 8 tz) (IsV (.int .i64 e))) (v 2) w' := hd 2 (by kernel_rfl); obtain ⟨x0, x1, x2, z0, y0, y1, y2⟩ := d0; have ev0 := hf.val 2 30 _ z0 (by kernel_rfl) (by kernel_rfl) (by kernel_rfl); clear z0; clear hd hf; intro K hK; go_simp; exact hK.out _ _ (Ext.refl _) y0 (FreshIf.no rfl) }) ?_
    refine RgAll.cons (by { (with_reducible refine RgL.mk (by rfl) ?_); intro v a w' hE hd hf; have d0 : (IsT3 (IsI 8 sz) (IsI 8 tz) (IsV (.int .i64 e))) (v 2) w' := hd 2 (by kernel_rfl); obtain ⟨x0, x1, x2, z0, y0, y1, y2⟩ := d0; have ev0 := hf.val 2 30 _ z0 (by kernel_rfl) (by kernel_rfl) (by kernel_rfl); clear z0; clear hd hf; intro K hK; go_simp; exact hK.out _ _ (Ext.refl _) y1 (FreshIf.no rfl) }) ?_
    refine RgAll.cons (by { (with_reducible refine RgL.mk (by rfl) ?_); intro v a w' hE hd hf; have d0 : (IsT3 (IsI 8 sz) (IsI 8 tz) (IsV (.int .i64 e))) (v 2) w' := hd 2 (by kernel_rfl); obtain ⟨x0, x1, x2, z0, y0, y1, y2⟩ := d0; have ev0 := hf.val 2 30 _ z0 (by kernel_rfl) (by kernel_rfl) (by kernel_rfl); clear z0; clear hd hf; intro K hK; go_simp; exact hK.out _ _ (Ext.refl _) y2 (FreshIf.no rfl) }) ?_
    refine RgAll.cons (by { (with_reducible refine RgL.mk (by rfl) ?_); intro v a w' hE hd hf; skip; clear hd hf; intro K hK; go_simp; refine hK.out _ _ ((Ext.refl _).alloc _) ⟨_, rfl, hE.size, Bx.new _ _ _ _ _⟩ FreshIf.yes }) ?_
    refine RgAll.cons (by { (with_reducible refine RgL.mk (by rfl) ?_); intro v a w' hE hd hf; skip; clear hd hf; intro K hK; go_simp; refine hK.out _ _ ((Ext.refl _).alloc _) ⟨_, rfl, hE.size, Bx.new _ _ _ _ _⟩ FreshIf.yes }) ?_
    exact RgAll.nil
  intro v W4 e1 hΦ hne
  replace S := S.mono e1
  obtain ⟨s33, a33, n33, c33, v3, h33⟩ := (hΦ 3 (by decide) : IsI 8 sz (v 3) W4)
  obtain ⟨s34, a34, n34, c34, v4, h34⟩ := (hΦ 4 (by decide) : IsI 8 tz (v 4) W4)
  have v5 : v 5 = .int .i64 e := hΦ 5 (by decide)
  obtain ⟨g9, v6, q4, b3⟩ := (hΦ 6 (by decide) : IsB W3 (v 6) W4)
  replace S := S.addN (Apart.old hl.out q4) (Nat.le_trans hw q4) b3
  clear b3
  obtain ⟨g10, v7, q6, b5⟩ := (hΦ 7 (by decide) : IsB W3 (v 7) W4)
  replace S := S.addN (Apart.cons (fun h => hne 6 7 (by decide) (by decide) (by decide) (by decide) (by decide) (by rw [v6, v7, h])) (Apart.old hl.out q6)) (Nat.le_trans hw q6) b5
  clear b5
  clear hne
  simp only [layL, Act.put, List.setIfInBounds_toArray, List.set_cons_zero, List.set_cons_succ, Nat.reduceAdd]
  rw [v3, v4, v5, v6, v7]
  clear v3 v4 v5 v6 v7
  clear hΦ
  clear hl hw
  clear e1
  obtain ⟨s8, a8, n8, c8, b8, _⟩ := S.at 1 (g9) (IsI 0 0) rfl; have F1 := b8.c0; have F2 := b8.c1; have F3 := b8.f0; have F4 := b8.f1
  refine wpList_step fun K hK => ?_; go_simp; refine hK _ _ ?_; clear hK K
  clear F1 F2 F3 F4 b8
  obtain ⟨W5, hW, S2, G2, _⟩ := S.put 1 (g9) (IsI 0 0) (IsI 8 sz) rfl s33 a33 n33 c33 (IsI.gstb _ _) ⟨_, _, _, _, rfl, h33⟩
  rw [← hW]; clear hW S
  replace h34 := h34.gr G2
  have S : St w W5 [(g10, IsI 0 0), (g9, IsI 8 sz), (g8, IsI 8 za), (w.heap.size, IsR s1 x1)] := S2; clear S2 G2
  clear h33
  obtain ⟨s8, a8, n8, c8, b8, _⟩ := S.at 0 (g10) (IsI 0 0) rfl; have F1 := b8.c0; have F2 := b8.c1; have F3 := b8.f0; have F4 := b8.f1
  refine wpList_step fun K hK => ?_; go_simp; refine hK _ _ ?_; clear hK K
  clear F1 F2 F3 F4 b8
  obtain ⟨W6, hW, S2, G2, _⟩ := S.put 0 (g10) (IsI 0 0) (IsI 8 tz) rfl s34 a34 n34 c34 (IsI.gstb _ _) ⟨_, _, _, _, rfl, h34⟩
  rw [← hW]; clear hW S
  have S : St w W6 [(g10, IsI 8 tz), (g9, IsI 8 sz), (g8, IsI 8 za), (w.heap.size, IsR s1 x1)] := S2; clear S2 G2
  clear h34
  refine wpList_step fun K hK => ?_; go_simp; refine hK _ _ ?_; clear hK K
  refine wpList_nil ?_
  go_upto_region 6 with (fail)
  have hl := hid S.lt; have hw := S.ext.size
  refine wp_region_rgs 8 [some 37, some 38, some 36, some 39, some 40, some 41, some 12, some 13] [IsI 8 za, IsT3 (IsI 8 sz) (IsI 8 tz) (IsV (.int .i64 e)), IsT3 (IsI 8 sz) (IsI 8 tz) (IsV (.int .i64 e)), IsI 8 sz, IsI 8 tz, IsV (.int .i64 e), IsB W6, IsB W6] [6, 7] (by decide) (by kernel_rfl) (by kernel_rfl) (by kernel_rfl) ?_ ?_ ?_ ?_
  · repeat' (first | exact trivial | exact IsV.stb _ | exact IsW.stb _ | exact IsWk.stb _ _ | exact IsI.stb _ _ | exact IsB.stb _ | exact IsR.stb _ _ | exact IsMag.stb _ _ | exact IsPos.stb | apply IsT3.stb | apply IsT2.stb | apply And.intro)
  · intro i hi; simp only [List.mem_cons, List.not_mem_nil, or_false] at hi; rcases hi with rfl | rfl <;> exact IsB.box _
  · refine RgAll.cons (by { (with_reducible refine RgL.mk (by rfl) ?_); intro v a w' hE hd hf; have ev0 := hf.lit 8 (.pointer (some ⟨g8, 0, none⟩)) (by kernel_rfl) (by kernel_rfl); obtain ⟨s8, a8, n8, c8, b8, h8⟩ := (S.mono hE).at 2 (g8) (IsI 8 za) rfl; have L0 := b8.c0; have L1 := b8.c1; clear hd hf; intro K hK; go_simp; exact hK.out _ _ (Ext.refl _) h8 (FreshIf.no rfl) }) ?_
    refine RgAll.cons (by { (with_reducible refine RgL.mk (by rfl) ?_); intro v a w' hE hd hf; have d0 : (IsI 8 za) (v 0) w' := hd 0 (by kernel_rfl); have ev0 := hf.val 0 37 _ rfl (by kernel_rfl) (by kernel_rfl) (by kernel_rfl); clear hd hf; intro K hK; go_simp; go_at_call 30; go_split_ands; (with_reducible refine Calls.mono (HS2.out _ _ d0) ?_); rintro e w2 ⟨x, rfl, e2, hx⟩; exact hK.out _ _ e2 hx (FreshIf.no rfl) }) ?_
    refine RgAll.cons (by { (with_reducible refine RgL.mk (by rfl) ?_); intro v a w' hE hd hf; have d0 : (IsT3 (IsI 8 sz) (IsI 8 tz) (IsV (.int .i64 e))) (v 1) w' := hd 1 (by kernel_rfl); have ev0 := hf.val 1 38 _ rfl (by kernel_rfl) (by kernel_rfl) (by kernel_rfl); clear hd hf; intro K hK; go_simp; exact hK.out _ _ (Ext.refl _) d0 (FreshIf.no rfl) }) ?_
    refine RgAll.cons (by { (with_reducible refine RgL.mk (by rfl) ?_); intro v a w' hE hd hf; have d0 : (IsT3 (IsI 8 sz) (IsI 8 tz) (IsV (.int .i64 e))) (v 2) w' := hd 2 (by kernel_rfl); obtain ⟨x0, x1, x2, z0, y0, y1, y2⟩ := d0; have ev0 := hf.val 2 36 _ z0 (by kernel_rfl) (by kernel_rfl) (by kernel_rfl); clear z0; clear hd hf; intro K hK; go_simp; exact hK.out _ _ (Ext.refl _) y0 (FreshIf.no rfl) }) ?_
    refine RgAll.cons (by { (with_reducible refine RgL.mk (by rfl) ?_); intro v a w' hE hd hf; have d0 : (IsT3 (IsI 8 sz) (IsI 8 tz) (IsV (.int .i64 e))) (v 2) w' := hd 2 (by kernel_rfl); obtain ⟨x0, x1, x2, z0, y0, y1, y2⟩ := d0; have ev0 := hf.val 2 36 _ z0 (by kernel_rfl) (by kernel_rfl) (by kernel_rfl); clear z0; clear hd hf; intro K hK; go_simp; exact hK.out _ _ (Ext.refl _) y1 (FreshIf.no rfl) }) ?_
    refine RgAll.cons (by { (with_reducible refine RgL.mk (by rfl) ?_); intro v a w' hE hd hf; have d0 : (IsT3 (IsI 8 sz) (IsI 8 tz) (IsV (.int .i64 e))) (v 2) w' := hd 2 (by kernel_rfl); obtain ⟨x0, x1, x2, z0, y0, y1, y2⟩ := d0; have ev0 := hf.val 2 36 _ z0 (by kernel_rfl) (by kernel_rfl) (by kernel_rfl); clear z0; clear hd hf; intro K hK; go_simp; exact hK.out _ _ (Ext.refl _) y2 (FreshIf.no rfl) }) ?_
    refine RgAll.cons (by { (with_reducible refine RgL.mk (by rfl) ?_); intro v a w' hE hd hf; skip; clear hd hf; intro K hK; go_simp; refine hK.out _ _ ((Ext.refl _).alloc _) ⟨_, rfl, hE.size, Bx.new _ _ _ _ _⟩ FreshIf.yes }) ?_
    refine RgAll.cons (by { (with_reducible refine RgL.mk (by rfl) ?_); intro v a w' hE hd hf; skip; clear hd hf; intro K hK; go_simp; refine hK.out _ _ ((Ext.refl _).alloc _) ⟨_, rfl, hE.size, Bx.new _ _ _ _ _⟩ FreshIf.yes }) ?_
    exact RgAll.nil
  intro v W7 e1 hΦ hne
  replace S := S.mono e1
  obtain ⟨s39, a39, n39, c39, v3, h39⟩ := (hΦ 3 (by decide) : IsI 8 sz (v 3) W7)
  obtain ⟨s40, a40, n40, c40, v4, h40⟩ := (hΦ 4 (by decide) : IsI 8 tz (v 4) W7)
  have v5 : v 5 = .int .i64 e := hΦ 5 (by decide)
  obtain ⟨g12, v6, q8, b7⟩ := (hΦ 6 (by decide) : IsB W6 (v 6) W7)
  replace S := S.addN (Apart.old hl.out q8) (Nat.le_trans hw q8) b7
  clear b7
  obtain ⟨g13, v7, q10, b9⟩ := (hΦ 7 (by decide) : IsB W6 (v 7) W7)
  replace S := S.addN (Apart.cons (fun h => hne 6 7 (by decide) (by decide) (by decide) (by decide) (by decide) (by rw [v6, v7, h])) (Apart.old hl.out q10)) (Nat.le_trans hw q10) b9
  clear b9
  clear hne
  simp only [layL, Act.put, List.setIfInBounds_toArray, List.set_cons_zero, List.set_cons_succ, Nat.reduceAdd]
  rw [v3, v4, v5, v6, v7]
  clear v3 v4 v5 v6 v7
  clear hΦ
  clear hl hw
  clear e1
  obtain ⟨s8, a8, n8, c8, b8, _⟩ := S.at 1 (g12) (IsI 0 0) rfl; have F1 := b8.c0; have F2 := b8.c1; have F3 := b8.f0; have F4 := b8.f1
  refine wpList_step fun K hK => ?_; go_simp; refine hK _ _ ?_; clear hK K
  clear F1 F2 F3 F4 b8
  obtain ⟨W8, hW, S2, G2, _⟩ := S.put 1 (g12) (IsI 0 0) (IsI 8 sz) rfl s39 a39 n39 c39 (IsI.gstb _ _) ⟨_, _, _, _, rfl, h39⟩
  rw [← hW]; clear hW S
  replace h40 := h40.gr G2
  have S : St w W8 [(g13, IsI 0 0), (g12, IsI 8 sz), (g10, IsI 8 tz), (g9, IsI 8 sz), (g8, IsI 8 za), (w.heap.size, IsR s1 x1)] := S2; clear S2 G2
  clear h39
  obtain ⟨s8, a8, n8, c8, b8, _⟩ := S.at 0 (g13) (IsI 0 0) rfl; have F1 := b8.c0; have F2 := b8.c1; have F3 := b8.f0; have F4 := b8.f1
  refine wpList_step fun K hK => ?_; go_simp; refine hK _ _ ?_; clear hK K
  clear F1 F2 F3 F4 b8
  obtain ⟨W9, hW, S2, G2, _⟩ := S.put 0 (g13) (IsI 0 0) (IsI 8 tz) rfl s40 a40 n40 c40 (IsI.gstb _ _) ⟨_, _, _, _, rfl, h40⟩
  rw [← hW]; clear hW S
  have S : St w W9 [(g13, IsI 8 tz), (g12, IsI 8 sz), (g10, IsI 8 tz), (g9, IsI 8 sz), (g8, IsI 8 za), (w.heap.size, IsR s1 x1)] := S2; clear S2 G2
  clear h40
  refine wpList_step fun K hK => ?_; go_simp; refine hK _ _ ?_; clear hK K
  refine wpList_nil ?_
  go_upto_region 7 with (fail)
  have hl := hid S.lt; have hw := S.ext.size
  refine wp_region_rgs 7 [some 43, some 44, some 45, some 42, some 46, some 47, some 15] [IsI 8 za, IsV (.int .i64 kk), IsT2 (IsI 8 pz) (IsV (.int .i64 0)), IsT2 (IsI 8 pz) (IsV (.int .i64 0)), IsI 8 pz, IsV (.int .i64 0), IsB W9] [6] (by decide) (by kernel_rfl) (by kernel_rfl) (by kernel_rfl) ?_ ?_ ?_ ?_
  · repeat' (first | exact trivial | exact IsV.stb _ | exact IsW.stb _ | exact IsWk.stb _ _ | exact IsI.stb _ _ | exact IsB.stb _ | exact IsR.stb _ _ | exact IsMag.stb _ _ | exact IsPos.stb | apply IsT3.stb | apply IsT2.stb | apply And.intro)
  · intro i hi; simp only [List.mem_cons, List.not_mem_nil, or_false] at hi; subst hi; exact IsB.box _
  · refine RgAll.cons (by { (with_reducible refine RgL.mk (by rfl) ?_); intro v a w' hE hd hf; have ev0 := hf.lit 8 (.pointer (some ⟨g8, 0, none⟩)) (by kernel_rfl) (by kernel_rfl); obtain ⟨s8, a8, n8, c8, b8, h8⟩ := (S.mono hE).at 4 (g8) (IsI 8 za) rfl; have L0 := b8.c0; have L1 := b8.c1; clear hd hf; intro K hK; go_simp; exact hK.out _ _ (Ext.refl _) h8 (FreshIf.no rfl) }) ?_
    refine RgAll.cons (by { (with_reducible refine RgL.mk (by rfl) ?_); intro v a w' hE hd hf; have ev0 := hf.lit 1 (.int .i64 kk) (by kernel_rfl) (by kernel_rfl); clear hd hf; intro K hK; go_simp; exact hK.out _ _ (Ext.refl _) rfl (FreshIf.no rfl) }) ?_
    refine RgAll.cons (by { (with_reducible refine RgL.mk (by rfl) ?_); intro v a w' hE hd hf; have d0 : (IsI 8 za) (v 0) w' := hd 0 (by kernel_rfl); have ev0 := hf.val 0 43 _ rfl (by kernel_rfl) (by kernel_rfl) (by kernel_rfl); have d1 : v 1 = .int .i64 kk := hd 1 (by kernel_rfl); have ev1 := hf.val 1 44 _ d1 (by kernel_rfl) (by kernel_rfl) (by kernel_rfl); clear d1; clear hd hf; intro K hK; go_simp; go_at_call 31; go_split_ands; (with_reducible refine Calls.mono (HR.out _ _ d0) ?_); rintro e w2 ⟨x, rfl, e2, hx⟩; exact hK.out _ _ e2 hx (FreshIf.no rfl) }) ?_
    refine RgAll.cons (by { (with_reducible refine RgL.mk (by rfl) ?_); intro v a w' hE hd hf; have d0 : (IsT2 (IsI 8 pz) (IsV (.int .i64 0))) (v 2) w' := hd 2 (by kernel_rfl); have ev0 := hf.val 2 45 _ rfl (by kernel_rfl) (by kernel_rfl) (by kernel_rfl); clear hd hf; intro K hK; go_simp; exact hK.out _ _ (Ext.refl _) d0 (FreshIf.no rfl) }) ?_
    refine RgAll.cons (by { (with_reducible refine RgL.mk (by rfl) ?_); intro v a w' hE hd hf; have d0 : (IsT2 (IsI 8 pz) (IsV (.int .i64 0))) (v 3) w' := hd 3 (by kernel_rfl); obtain ⟨x0, x1, z0, y0, y1⟩ := d0; have ev0 := hf.val 3 42 _ z0 (by kernel_rfl) (by kernel_rfl) (by kernel_rfl); clear z0; clear hd hf; intro K hK; go_simp; exact hK.out _ _ (Ext.refl _) y0 (FreshIf.no rfl) }) ?_
    refine RgAll.cons (by { (with_reducible refine RgL.mk (by rfl) ?_); intro v a w' hE hd hf; have d0 : (IsT2 (IsI 8 pz) (IsV (.int .i64 0))) (v 3) w' := hd 3 (by kernel_rfl); obtain ⟨x0, x1, z0, y0, y1⟩ := d0; have ev0 := hf.val 3 42 _ z0 (by kernel_rfl) (by kernel_rfl) (by kernel_rfl); clear z0; clear hd hf; intro K hK; go_simp; exact hK.out _ _ (Ext.refl _) y1 (FreshIf.no rfl) }) ?_
    refine RgAll.cons (by { (with_reducible refine RgL.mk (by rfl) ?_); intro v a w' hE hd hf; skip; clear hd hf; intro K hK; go_simp; refine hK.out _ _ ((Ext.refl _).alloc _) ⟨_, rfl, hE.size, Bx.new _ _ _ _ _⟩ FreshIf.yes }) ?_
    exact RgAll.nil
  intro v W10 e1 hΦ _
  replace S := S.mono e1
  obtain ⟨s46, a46, n46, c46, v4, h46⟩ := (hΦ 4 (by decide) : IsI 8 pz (v 4) W10)
  have v5 : v 5 = .int .i64 0 := hΦ 5 (by decide)
  obtain ⟨g15, v6, q12, b11⟩ := (hΦ 6 (by decide) : IsB W9 (v 6) W10)
  replace S := S.addN (Apart.old hl.out q12) (Nat.le_trans hw q12) b11
  clear b11
  simp only [layL, Act.put, List.setIfInBounds_toArray, List.set_cons_zero, List.set_cons_succ, Nat.reduceAdd]
  rw [v4, v5, v6]
  clear v4 v5 v6
  clear hΦ
  clear hl hw
  clear e1
  obtain ⟨s8, a8, n8, c8, b8, _⟩ := S.at 0 (g15) (IsI 0 0) rfl; have F1 := b8.c0; have F2 := b8.c1; have F3 := b8.f0; have F4 := b8.f1
  refine wpList_step fun K hK => ?_; go_simp; refine hK _ _ ?_; clear hK K
  clear F1 F2 F3 F4 b8
  obtain ⟨W11, hW, S2, G2, _⟩ := S.put 0 (g15) (IsI 0 0) (IsI 8 pz) rfl s46 a46 n46 c46 (IsI.gstb _ _) ⟨_, _, _, _, rfl, h46⟩
  rw [← hW]; clear hW S
  have S : St w W11 [(g15, IsI 8 pz), (g13, IsI 8 tz), (g12, IsI 8 sz), (g10, IsI 8 tz), (g9, IsI 8 sz), (g8, IsI 8 za), (w.heap.size, IsR s1 x1)] := S2; clear S2 G2
  clear h46
  refine wpList_step fun K hK => ?_; go_simp; refine hK _ _ ?_; clear hK K
  refine wpList_nil ?_
  go_upto_region 8 with (fail)
  have hl := hid S.lt; have hw := S.ext.size
  refine wp_region_rgs 7 [some 49, some 50, some 51, some 48, some 52, some 53, some 17] [IsI 8 za, IsV (.int .i64 kk), IsT2 (IsI 8 pz) (IsV (.int .i64 0)), IsT2 (IsI 8 pz) (IsV (.int .i64 0)), IsI 8 pz, IsV (.int .i64 0), IsB W11] [6] (by decide) (by kernel_rfl) (by kernel_rfl) (by kernel_rfl) ?_ ?_ ?_ ?_
  · repeat' (first | exact trivial | exact IsV.stb _ | exact IsW.stb _ | exact IsWk.stb _ _ | exact IsI.stb _ _ | exact IsB.stb _ | exact IsR.stb _ _ | exact IsMag.stb _ _ | exact IsPos.stb | apply IsT3.stb | apply IsT2.stb | apply And.intro)
  · intro i hi; simp only [List.mem_cons, List.not_mem_nil, or_false] at hi; subst hi; exact IsB.box _
  · refine RgAll.cons (by { (with_reducible refine RgL.mk (by rfl) ?_); intro v a w' hE hd hf; have ev0 := hf.lit 8 (.pointer (some ⟨g8, 0, none⟩)) (by kernel_rfl) (by kernel_rfl); obtain ⟨s8, a8, n8, c8, b8, h8⟩ := (S.mono hE).at 5 (g8) (IsI 8 za) rfl; have L0 := b8.c0; have L1 := b8.c1; clear hd hf; intro K hK; go_simp; exact hK.out _ _ (Ext.refl _) h8 (FreshIf.no rfl) }) ?_
    refine RgAll.cons (by { (with_reducible refine RgL.mk (by rfl) ?_); intro v a w' hE hd hf; have ev0 := hf.lit 1 (.int .i64 kk) (by kernel_rfl) (by kernel_rfl); clear hd hf; intro K hK; go_simp; exact hK.out _ _ (Ext.refl _) rfl (FreshIf.no rfl) }) ?_
    refine RgAll.cons (by { (with_reducible refine RgL.mk (by rfl) ?_); intro v a w' hE hd hf; have d0 : (IsI 8 za) (v 0) w' := hd 0 (by kernel_rfl); have ev0 := hf.val 0 49 _ rfl (by kernel_rfl) (by kernel_rfl) (by kernel_rfl); have d1 : v 1 = .int .i64 kk := hd 1 (by kernel_rfl); have ev1 := hf.val 1 50 _ d1 (by kernel_rfl) (by kernel_rfl) (by kernel_rfl); clear d1; clear hd hf; intro K hK; go_simp; go_at_call 32; go_split_ands; (with_reducible refine Calls.mono (HR2.out _ _ d0) ?_); rintro e w2 ⟨x, rfl, e2, hx⟩; exact hK.out _ _ e2 hx (FreshIf.no rfl) }) ?_
    refine RgAll.cons (by { (with_reducible refine RgL.mk (by rfl) ?_); intro v a w' hE hd hf; have d0 : (IsT2 (IsI 8 pz) (IsV (.int .i64 0))) (v 2) w' := hd 2 (by kernel_rfl); have ev0 := hf.val 2 51 _ rfl (by kernel_rfl) (by kernel_rfl) (by kernel_rfl); clear hd hf; intro K hK; go_simp; exact hK.out _ _ (Ext.refl _) d0 (FreshIf.no rfl) }) ?_
    refine RgAll.cons (by { (with_reducible refine RgL.mk (by rfl) ?_); intro v a w' hE hd hf; have d0 : (IsT2 (IsI 8 pz) (IsV (.int .i64 0))) (v 3) w' := hd 3 (by kernel_rfl); obtain ⟨x0, x1, z0, y0, y1⟩ := d0; have ev0 := hf.val 3 48 _ z0 (by kernel_rfl) (by kernel_rfl) (by kernel_rfl); clear z0; clear hd hf; intro K hK; go_simp; exact hK.out _ _ (Ext.refl _) y0 (FreshIf.no rfl) }) ?_
    refine RgAll.cons (by { (with_reducible refine RgL.mk (by rfl) ?_); intro v a w' hE hd hf; have d0 : (IsT2 (IsI 8 pz) (IsV (.int .i64 0))) (v 3) w' := hd 3 (by kernel_rfl); obtain ⟨x0, x1, z0, y0, y1⟩ := d0; have ev0 := hf.val 3 48 _ z0 (by kernel_rfl) (by kernel_rfl) (by kernel_rfl); clear z0; clear hd hf; intro K hK; go_simp; exact hK.out _ _ (Ext.refl _) y1 (FreshIf.no rfl) }) ?_
    refine RgAll.cons (by { (with_reducible refine RgL.mk (by rfl) ?_); intro v a w' hE hd hf; skip; clear hd hf; intro K hK; go_simp; refine hK.out _ _ ((Ext.refl _).alloc _) ⟨_, rfl, hE.size, Bx.new _ _ _ _ _⟩ FreshIf.yes }) ?_
    exact RgAll.nil
  intro v W12 e1 hΦ _
  replace S := S.mono e1
  obtain ⟨s52, a52, n52, c52, v4, h52⟩ := (hΦ 4 (by decide) : IsI 8 pz (v 4) W12)
  have v5 : v 5 = .int .i64 0 := hΦ 5 (by decide)
  obtain ⟨g17, v6, q14, b13⟩ := (hΦ 6 (by decide) : IsB W11 (v 6) W12)
  replace S := S.addN (Apart.old hl.out q14) (Nat.le_trans hw q14) b13
  clear b13
  simp only [layL, Act.put, List.setIfInBounds_toArray, List.set_cons_zero, List.set_cons_succ, Nat.reduceAdd]
  rw [v4, v5, v6]
  clear v4 v5 v6
  clear hΦ
  clear hl hw
  clear e1
  obtain ⟨s8, a8, n8, c8, b8, _⟩ := S.at 0 (g17) (IsI 0 0) rfl; have F1 := b8.c0; have F2 := b8.c1; have F3 := b8.f0; have F4 := b8.f1
  refine wpList_step fun K hK => ?_; go_simp; refine hK _ _ ?_; clear hK K
  clear F1 F2 F3 F4 b8
  obtain ⟨W13, hW, S2, G2, _⟩ := S.put 0 (g17) (IsI 0 0) (IsI 8 pz) rfl s52 a52 n52 c52 (IsI.gstb _ _) ⟨_, _, _, _, rfl, h52⟩
  rw [← hW]; clear hW S
  have S : St w W13 [(g17, IsI 8 pz), (g15, IsI 8 pz), (g13, IsI 8 tz), (g12, IsI 8 sz), (g10, IsI 8 tz), (g9, IsI 8 sz), (g8, IsI 8 za), (w.heap.size, IsR s1 x1)] := S2; clear S2 G2
  clear h52
  refine wpList_step fun K hK => ?_; go_simp; refine hK _ _ ?_; clear hK K
  refine wpList_nil ?_
  go_upto_region 9 with (fail)
  have hl := hid S.lt; have hw := S.ext.size
  refine wp_region_rg 12 [some 54, some 55, some 56, some 57, some 58, some 59, some 60, some 61, some 62, some 63, some 64, some 19] [IsV (.pointer (some ⟨w.heap.size, 0, none⟩)), IsV (.bool s1), IsV (.pointer (some ⟨w.heap.size, 1, none⟩)), IsW x1, IsV (.pointer (some ⟨w.heap.size, 1, none⟩)), IsW x1, IsV (.int .i64 (x1).length), IsV (.int .i64 (m : Nat)), IsW (x1.take m), IsR s1 (((x1.take m))), IsI 2 zb, IsB W13] [11] 1 (by kernel_rfl) (by decide) (by kernel_rfl) (by kernel_rfl) (by kernel_rfl) (by kernel_rfl) (by kernel_rfl) ?_ ?_ ?_ ?_
  · repeat' (first | exact trivial | exact IsV.stb _ | exact IsW.stb _ | exact IsWk.stb _ _ | exact IsI.stb _ _ | exact IsB.stb _ | exact IsR.stb _ _ | exact IsMag.stb _ _ | exact IsPos.stb | apply IsT3.stb | apply IsT2.stb | apply And.intro)
  · intro i hi; simp only [List.mem_cons, List.not_mem_nil, or_false] at hi; subst hi; exact IsB.box _
  · refine RgAll.cons (by { (with_reducible refine RgL.mk (by rfl) ?_); intro v a w' hE hd hf; have ev0 := hf.lit 3 (.pointer (some ⟨w.heap.size, 0, none⟩)) (by kernel_rfl) (by kernel_rfl); clear hd hf; intro K hK; go_simp; exact hK.out _ _ (Ext.refl _) rfl (FreshIf.no rfl) }) ?_
    refine RgAll.cons (by { (with_reducible refine RgL.mk (by rfl) ?_); intro v a w' hE hd hf; have d0 : v 0 = .pointer (some ⟨w.heap.size, 0, none⟩) := hd 0 (by kernel_rfl); have ev0 := hf.val 0 54 _ d0 (by kernel_rfl) (by kernel_rfl) (by kernel_rfl); clear d0; obtain ⟨s8, a8, n8, c8, b8, h8⟩ := (S.mono hE).at 7 (w.heap.size) (IsR s1 x1) rfl; have L0 := b8.c0; have L1 := b8.c1; obtain ⟨a9, n9, c9, k9, h9⟩ := h8; injection k9 with k9; simp only [Array.mk.injEq, List.cons.injEq, Value.bool.injEq, Value.slice.injEq, and_true] at k9; obtain ⟨rfl, rfl, rfl, rfl⟩ := k9; clear hd hf; intro K hK; go_simp; exact hK.out _ _ (Ext.refl _) rfl (FreshIf.no rfl) }) ?_
    refine RgAll.cons (by { (with_reducible refine RgL.mk (by rfl) ?_); intro v a w' hE hd hf; have ev0 := hf.lit 3 (.pointer (some ⟨w.heap.size, 0, none⟩)) (by kernel_rfl) (by kernel_rfl); clear hd hf; intro K hK; go_simp; exact hK.out _ _ (Ext.refl _) rfl (FreshIf.no rfl) }) ?_
    refine RgAll.cons (by { (with_reducible refine RgL.mk (by rfl) ?_); intro v a w' hE hd hf; have d0 : v 2 = .pointer (some ⟨w.heap.size, 1, none⟩) := hd 2 (by kernel_rfl); have ev0 := hf.val 2 56 _ d0 (by kernel_rfl) (by kernel_rfl) (by kernel_rfl); clear d0; obtain ⟨s8, a8, n8, c8, b8, h8⟩ := (S.mono hE).at 7 (w.heap.size) (IsR s1 x1) rfl; have L0 := b8.c0; have L1 := b8.c1; obtain ⟨a9, n9, c9, k9, h9⟩ := h8; injection k9 with k9; simp only [Array.mk.injEq, List.cons.injEq, Value.bool.injEq, Value.slice.injEq, and_true] at k9; obtain ⟨rfl, rfl, rfl, rfl⟩ := k9; clear hd hf; intro K hK; go_simp; exact hK.out _ _ (Ext.refl _) ⟨_, _, _, rfl, h9⟩ (FreshIf.no rfl) }) ?_
    refine RgAll.cons (by { (with_reducible refine RgL.mk (by rfl) ?_); intro v a w' hE hd hf; have ev0 := hf.lit 3 (.pointer (some ⟨w.heap.size, 0, none⟩)) (by kernel_rfl) (by kernel_rfl); clear hd hf; intro K hK; go_simp; exact hK.out _ _ (Ext.refl _) rfl (FreshIf.no rfl) }) ?_
    refine RgAll.cons (by { (with_reducible refine RgL.mk (by rfl) ?_); intro v a w' hE hd hf; have d0 : v 4 = .pointer (some ⟨w.heap.size, 1, none⟩) := hd 4 (by kernel_rfl); have ev0 := hf.val 4 58 _ d0 (by kernel_rfl) (by kernel_rfl) (by kernel_rfl); clear d0; obtain ⟨s8, a8, n8, c8, b8, h8⟩ := (S.mono hE).at 7 (w.heap.size) (IsR s1 x1) rfl; have L0 := b8.c0; have L1 := b8.c1; obtain ⟨a9, n9, c9, k9, h9⟩ := h8; injection k9 with k9; simp only [Array.mk.injEq, List.cons.injEq, Value.bool.injEq, Value.slice.injEq, and_true] at k9; obtain ⟨rfl, rfl, rfl, rfl⟩ := k9; clear hd hf; intro K hK; go_simp; exact hK.out _ _ (Ext.refl _) ⟨_, _, _, rfl, h9⟩ (FreshIf.no rfl) }) ?_
    refine RgAll.cons (by { (with_reducible refine RgL.mk (by rfl) ?_); intro v a w' hE hd hf; have d0 : (IsW x1) (v 5) w' := hd 5 (by kernel_rfl); obtain ⟨a9, n9, c9, z0, h9⟩ := d0; have ev0 := hf.val 5 59 _ z0 (by kernel_rfl) (by kernel_rfl) (by kernel_rfl); clear z0; have l9 := h9.len; subst l9; have t9 := h9.capo; have t8 := h9.big; clear h9; clear hd hf; intro K hK; go_simp; exact hK.out _ _ (Ext.refl _) rfl (FreshIf.no rfl) }) ?_
    refine RgAll.cons (by { (with_reducible refine RgL.mk (by rfl) ?_); intro v a w' hE hd hf; have d0 : v 6 = .int .i64 (x1).length := hd 6 (by kernel_rfl); have ev0 := hf.val 6 60 _ d0 (by kernel_rfl) (by kernel_rfl) (by kernel_rfl); clear d0; have hx9 := HMI.out; clear hd hf; intro K hK; go_simp; exact hK.out _ _ (Ext.refl _) rfl (FreshIf.no rfl) }) ?_
    refine RgAll.cons (by { (with_reducible refine RgL.mk (by rfl) ?_); intro v a w' hE hd hf; have d0 : (IsW x1) (v 3) w' := hd 3 (by kernel_rfl); obtain ⟨a9, n9, c9, z0, h9⟩ := d0; have ev0 := hf.val 3 57 _ z0 (by kernel_rfl) (by kernel_rfl) (by kernel_rfl); clear z0; have d1 : v 7 = .int .i64 (m : Nat) := hd 7 (by kernel_rfl); have ev1 := hf.val 7 61 _ d1 (by kernel_rfl) (by kernel_rfl) (by kernel_rfl); clear d1; have l9 := h9.len; subst l9; have t9 := HML.out; have t8 := h9.capo; have t7 := h9.big; have t6 := Nat.le_trans t9 t8; have h9 := hid h9; clear hd hf; intro K hK; go_simp; exact hK.out _ _ (Ext.refl _) ⟨_, _, _, rfl, h9.out.take _ (HML.out)⟩ (FreshIf.no rfl) }) ?_
    refine RgAll.cons (by { (with_reducible refine RgL.mk (by rfl) ?_); intro v a w' hE hd hf; have d0 : v 1 = .bool s1 := hd 1 (by kernel_rfl); have ev0 := hf.val 1 55 _ d0 (by kernel_rfl) (by kernel_rfl) (by kernel_rfl); clear d0; have d1 : (IsW (x1.take m)) (v 8) w' := hd 8 (by kernel_rfl); obtain ⟨a9, n9, c9, z0, h9⟩ := d1; have ev1 := hf.val 8 62 _ z0 (by kernel_rfl) (by kernel_rfl) (by kernel_rfl); clear z0; clear hd hf; intro K hK; go_simp; exact hK.out _ _ (Ext.refl _) ⟨_, _, _, rfl, h9⟩ (FreshIf.no rfl) }) ?_
    refine RgAll.cons (by { (with_reducible refine RgL.mk (by rfl) ?_); intro v a w' hE hd hf; have d0 : (IsR s1 (((x1.take m)))) (v 9) w' := hd 9 (by kernel_rfl); have ev0 := hf.val 9 63 _ rfl (by kernel_rfl) (by kernel_rfl) (by kernel_rfl); clear hd hf; intro K hK; go_simp; go_at_call 6; go_split_ands; (with_reducible refine Calls.mono (Calls.mono (Made_f d0 (by decide)) fun _ _ h => h.eqz Hb.out) ?_); rintro e w2 ⟨x, rfl, e2, hx⟩; exact hK.out _ _ e2 hx (FreshIf.no rfl) }) ?_
    refine RgAll.cons (by { (with_reducible refine RgL.mk (by rfl) ?_); intro v a w' hE hd hf; skip; clear hd hf; intro K hK; go_simp; refine hK.out _ _ ((Ext.refl _).alloc _) ⟨_, rfl, hE.size, Bx.new _ _ _ _ _⟩ FreshIf.yes }) ?_
    exact RgAll.nil
  intro v W14 e1 hΦ _
  replace S := S.mono e1
  obtain ⟨s64, a64, n64, c64, v10, h64⟩ := (hΦ 10 (by decide) : IsI 2 zb (v 10) W14)
  obtain ⟨g19, v11, q16, b15⟩ := (hΦ 11 (by decide) : IsB W13 (v 11) W14)
  replace S := S.addN (Apart.old hl.out q16) (Nat.le_trans hw q16) b15
  clear b15
  simp only [layL, Act.put, List.setIfInBounds_toArray, List.set_cons_zero, List.set_cons_succ, Nat.reduceAdd]
  rw [v10, v11]
  clear v10 v11
  clear hΦ
  clear hl hw
  clear e1
  obtain ⟨s8, a8, n8, c8, b8, _⟩ := S.at 0 (g19) (IsI 0 0) rfl; have F1 := b8.c0; have F2 := b8.c1; have F3 := b8.f0; have F4 := b8.f1
  refine wpAny_ready (rs := [12]) (by kernel_rfl) (by simp) (AllReady.cons rfl (fun K hK => ?_) AllReady.nil); go_simp; refine hK _ _ ?_; clear hK K
  clear F1 F2 F3 F4 b8
  obtain ⟨W15, hW, S2, G2, _⟩ := S.put 0 (g19) (IsI 0 0) (IsI 2 zb) rfl s64 a64 n64 c64 (IsI.gstb _ _) ⟨_, _, _, _, rfl, h64⟩
  rw [← hW]; clear hW S
  have S : St w W15 [(g19, IsI 2 zb), (g17, IsI 8 pz), (g15, IsI 8 pz), (g13, IsI 8 tz), (g12, IsI 8 sz), (g10, IsI 8 tz), (g9, IsI 8 sz), (g8, IsI 8 za), (w.heap.size, IsR s1 x1)] := S2; clear S2 G2
  clear h64
  refine wpAny_done (by kernel_rfl) ?_ _
  go_upto_region 10 with (fail)
  have hl := hid S.lt; have hw := S.ext.size
  refine wp_region_rgs 7 [some 66, some 67, some 68, some 65, some 69, some 70, some 20] [IsI 2 zb, IsV (.int .i64 nn), IsT2 (IsI 128 cz) (IsV (.int .i64 i)), IsT2 (IsI 128 cz) (IsV (.int .i64 i)), IsI 128 cz, IsV (.int .i64 i), IsB W15] [6] (by decide) (by kernel_rfl) (by kernel_rfl) (by kernel_rfl) ?_ ?_ ?_ ?_
  · repeat' (first | exact trivial | exact IsV.stb _ | exact IsW.stb _ | exact IsWk.stb _ _ | exact IsI.stb _ _ | exact IsB.stb _ | exact IsR.stb _ _ | exact IsMag.stb _ _ | exact IsPos.stb | apply IsT3.stb | apply IsT2.stb | apply And.intro)
  · intro i hi; simp only [List.mem_cons, List.not_mem_nil, or_false] at hi; subst hi; exact IsB.box _
  · refine RgAll.cons (by { (with_reducible refine RgL.mk (by rfl) ?_); intro v a w' hE hd hf; have ev0 := hf.lit 19 (.pointer (some ⟨g19, 0, none⟩)) (by kernel_rfl) (by kernel_rfl); obtain ⟨s8, a8, n8, c8, b8, h8⟩ := (S.mono hE).at 0 (g19) (IsI 2 zb) rfl; have L0 := b8.c0; have L1 := b8.c1; clear hd hf; intro K hK; go_simp; exact hK.out _ _ (Ext.refl _) h8 (FreshIf.no rfl) }) ?_
    refine RgAll.cons (by { (with_reducible refine RgL.mk (by rfl) ?_); intro v a w' hE hd hf; have ev0 := hf.lit 2 (.int .i64 nn) (by kernel_rfl) (by kernel_rfl); clear hd hf; intro K hK; go_simp; exact hK.out _ _ (Ext.refl _) rfl (FreshIf.no rfl) }) ?_
    refine RgAll.cons (by { (with_reducible refine RgL.mk (by rfl) ?_); intro v a w' hE hd hf; have d0 : (IsI 2 zb) (v 0) w' := hd 0 (by kernel_rfl); have ev0 := hf.val 0 66 _ rfl (by kernel_rfl) (by kernel_rfl) (by kernel_rfl); have d1 : v 1 = .int .i64 nn := hd 1 (by kernel_rfl); have ev1 := hf.val 1 67 _ d1 (by kernel_rfl) (by kernel_rfl) (by kernel_rfl); clear d1; clear hd hf; intro K hK; go_simp; go_at_call 33; go_split_ands; (with_reducible refine Calls.mono (HP.out _ _ d0) ?_); rintro e w2 ⟨x, rfl, e2, hx⟩; exact hK.out _ _ e2 hx (FreshIf.no rfl) }) ?_
    refine RgAll.cons (by { (with_reducible refine RgL.mk (by rfl) ?_); intro v a w' hE hd hf; have d0 : (IsT2 (IsI 128 cz) (IsV (.int .i64 i))) (v 2) w' := hd 2 (by kernel_rfl); have ev0 := hf.val 2 68 _ rfl (by kernel_rfl) (by kernel_rfl) (by kernel_rfl); clear hd hf; intro K hK; go_simp; exact hK.out _ _ (Ext.refl _) d0 (FreshIf.no rfl) }) ?_
    refine RgAll.cons (by { (with_reducible refine RgL.mk (by rfl) ?_); intro v a w' hE hd hf; have d0 : (IsT2 (IsI 128 cz) (IsV (.int .i64 i))) (v 3) w' := hd 3 (by kernel_rfl); obtain ⟨x0, x1, z0, y0, y1⟩ := d0; have ev0 := hf.val 3 65 _ z0 (by kernel_rfl) (by kernel_rfl) (by kernel_rfl); clear z0; clear hd hf; intro K hK; go_simp; exact hK.out _ _ (Ext.refl _) y0 (FreshIf.no rfl) }) ?_
    refine RgAll.cons (by { (with_reducible refine RgL.mk (by rfl) ?_); intro v a w' hE hd hf; have d0 : (IsT2 (IsI 128 cz) (IsV (.int .i64 i))) (v 3) w' := hd 3 (by kernel_rfl); obtain ⟨x0, x1, z0, y0, y1⟩ := d0; have ev0 := hf.val 3 65 _ z0 (by kernel_rfl) (by kernel_rfl) (by kernel_rfl); clear z0; clear hd hf; intro K hK; go_simp; exact hK.out _ _ (Ext.refl _) y1 (FreshIf.no rfl) }) ?_
    refine RgAll.cons (by { (with_reducible refine RgL.mk (by rfl) ?_); intro v a w' hE hd hf; skip; clear hd hf; intro K hK; go_simp; refine hK.out _ _ ((Ext.refl _).alloc _) ⟨_, rfl, hE.size, Bx.new _ _ _ _ _⟩ FreshIf.yes }) ?_
    exact RgAll.nil
  intro v W16 e1 hΦ _
  replace S := S.mono e1
  obtain ⟨s69, a69, n69, c69, v4, h69⟩ := (hΦ 4 (by decide) : IsI 128 cz (v 4) W16)
  have v5 : v 5 = .int .i64 i := hΦ 5 (by decide)
  obtain ⟨g20, v6, q18, b17⟩ := (hΦ 6 (by decide) : IsB W15 (v 6) W16)
  replace S := S.addN (Apart.old hl.out q18) (Nat.le_trans hw q18) b17
  clear b17
  simp only [layL, Act.put, List.setIfInBounds_toArray, List.set_cons_zero, List.set_cons_succ, Nat.reduceAdd]
  rw [v4, v5, v6]
  clear v4 v5 v6
  clear hΦ
  clear hl hw
  clear e1
  obtain ⟨s8, a8, n8, c8, b8, _⟩ := S.at 0 (g20) (IsI 0 0) rfl; have F1 := b8.c0; have F2 := b8.c1; have F3 := b8.f0; have F4 := b8.f1
  refine wpList_step fun K hK => ?_; go_simp; refine hK _ _ ?_; clear hK K
  clear F1 F2 F3 F4 b8
  obtain ⟨W17, hW, S2, G2, _⟩ := S.put 0 (g20) (IsI 0 0) (IsI 128 cz) rfl s69 a69 n69 c69 (IsI.gstb _ _) ⟨_, _, _, _, rfl, h69⟩
  rw [← hW]; clear hW S
  have S : St w W17 [(g20, IsI 128 cz), (g19, IsI 2 zb), (g17, IsI 8 pz), (g15, IsI 8 pz), (g13, IsI 8 tz), (g12, IsI 8 sz), (g10, IsI 8 tz), (g9, IsI 8 sz), (g8, IsI 8 za), (w.heap.size, IsR s1 x1)] := S2; clear S2 G2
  clear h69
  refine wpList_step fun K hK => ?_; go_simp; refine hK _ _ ?_; clear hK K
  refine wpList_nil ?_
  go_upto_region 11 with (fail)
  have hl := hid S.lt; have hw := S.ext.size
  refine wp_region_rgs 7 [some 72, some 73, some 74, some 71, some 75, some 76, some 22] [IsI 2 zb, IsV (.int .i64 nn), IsT2 (IsI 128 cz) (IsV (.int .i64 i)), IsT2 (IsI 128 cz) (IsV (.int .i64 i)), IsI 128 cz, IsV (.int .i64 i), IsB W17] [6] (by decide) (by kernel_rfl) (by kernel_rfl) (by kernel_rfl) ?_ ?_ ?_ ?_
  · repeat' (first | exact trivial | exact IsV.stb _ | exact IsW.stb _ | exact IsWk.stb _ _ | exact IsI.stb _ _ | exact IsB.stb _ | exact IsR.stb _ _ | exact IsMag.stb _ _ | exact IsPos.stb | apply IsT3.stb | apply IsT2.stb | apply And.intro)
  · intro i hi; simp only [List.mem_cons, List.not_mem_nil, or_false] at hi; subst hi; exact IsB.box _
  · refine RgAll.cons (by { (with_reducible refine RgL.mk (by rfl) ?_); intro v a w' hE hd hf; have ev0 := hf.lit 19 (.pointer (some ⟨g19, 0, none⟩)) (by kernel_rfl) (by kernel_rfl); obtain ⟨s8, a8, n8, c8, b8, h8⟩ := (S.mono hE).at 1 (g19) (IsI 2 zb) rfl; have L0 := b8.c0; have L1 := b8.c1; clear hd hf; intro K hK; go_simp; exact hK.out _ _ (Ext.refl _) h8 (FreshIf.no rfl) }) ?_
    refine RgAll.cons (by { (with_reducible refine RgL.mk (by rfl) ?_); intro v a w' hE hd hf; have ev0 := hf.lit 2 (.int .i64 nn) (by kernel_rfl) (by kernel_rfl); clear hd hf; intro K hK; go_simp; exact hK.out _ _ (Ext.refl _) rfl (FreshIf.no rfl) }) ?_
    refine RgAll.cons (by { (with_reducible refine RgL.mk (by rfl) ?_); intro v a w' hE hd hf; have d0 : (IsI 2 zb) (v 0) w' := hd 0 (by kernel_rfl); have ev0 := hf.val 0 72 _ rfl (by kernel_rfl) (by kernel_rfl) (by kernel_rfl); have d1 : v 1 = .int .i64 nn := hd 1 (by kernel_rfl); have ev1 := hf.val 1 73 _ d1 (by kernel_rfl) (by kernel_rfl) (by kernel_rfl); clear d1; clear hd hf; intro K hK; go_simp; go_at_call 34; go_split_ands; (with_reducible refine Calls.mono (HP2.out _ _ d0) ?_); rintro e w2 ⟨x, rfl, e2, hx⟩; exact hK.out _ _ e2 hx (FreshIf.no rfl) }) ?_
    refine RgAll.cons (by { (with_reducible refine RgL.mk (by rfl) ?_); intro v a w' hE hd hf; have d0 : (IsT2 (IsI 128 cz) (IsV (.int .i64 i))) (v 2) w' := hd 2 (by kernel_rfl); have ev0 := hf.val 2 74 _ rfl (by kernel_rfl) (by kernel_rfl) (by kernel_rfl); clear hd hf; intro K hK; go_simp; exact hK.out _ _ (Ext.refl _) d0 (FreshIf.no rfl) }) ?_
    refine RgAll.cons (by { (with_reducible refine RgL.mk (by rfl) ?_); intro v a w' hE hd hf; have d0 : (IsT2 (IsI 128 cz) (IsV (.int .i64 i))) (v 3) w' := hd 3 (by kernel_rfl); obtain ⟨x0, x1, z0, y0, y1⟩ := d0; have ev0 := hf.val 3 71 _ z0 (by kernel_rfl) (by kernel_rfl) (by kernel_rfl); clear z0; clear hd hf; intro K hK; go_simp; exact hK.out _ _ (Ext.refl _) y0 (FreshIf.no rfl) }) ?_
    refine RgAll.cons (by { (with_reducible refine RgL.mk (by rfl) ?_); intro v a w' hE hd hf; have d0 : (IsT2 (IsI 128 cz) (IsV (.int .i64 i))) (v 3) w' := hd 3 (by kernel_rfl); obtain ⟨x0, x1, z0, y0, y1⟩ := d0; have ev0 := hf.val 3 71 _ z0 (by kernel_rfl) (by kernel_rfl) (by kernel_rfl); clear z0; clear hd hf; intro K hK; go_simp; exact hK.out _ _ (Ext.refl _) y1 (FreshIf.no rfl) }) ?_
    refine RgAll.cons (by { (with_reducible refine RgL.mk (by rfl) ?_); intro v a w' hE hd hf; skip; clear hd hf; intro K hK; go_simp; refine hK.out _ _ ((Ext.refl _).alloc _) ⟨_, rfl, hE.size, Bx.new _ _ _ _ _⟩ FreshIf.yes }) ?_
    exact RgAll.nil
  intro v W18 e1 hΦ _
  replace S := S.mono e1
  obtain ⟨s75, a75, n75, c75, v4, h75⟩ := (hΦ 4 (by decide) : IsI 128 cz (v 4) W18)
  have v5 : v 5 = .int .i64 i := hΦ 5 (by decide)
  obtain ⟨g22, v6, q20, b19⟩ := (hΦ 6 (by decide) : IsB W17 (v 6) W18)
  replace S := S.addN (Apart.old hl.out q20) (Nat.le_trans hw q20) b19
  clear b19
  simp only [layL, Act.put, List.setIfInBounds_toArray, List.set_cons_zero, List.set_cons_succ, Nat.reduceAdd]
  rw [v4, v5, v6]
  clear v4 v5 v6
  clear hΦ
  clear hl hw
  clear e1
  obtain ⟨s8, a8, n8, c8, b8, _⟩ := S.at 0 (g22) (IsI 0 0) rfl; have F1 := b8.c0; have F2 := b8.c1; have F3 := b8.f0; have F4 := b8.f1
  refine wpList_step fun K hK => ?_; go_simp; refine hK _ _ ?_; clear hK K
  clear F1 F2 F3 F4 b8
  obtain ⟨W19, hW, S2, G2, _⟩ := S.put 0 (g22) (IsI 0 0) (IsI 128 cz) rfl s75 a75 n75 c75 (IsI.gstb _ _) ⟨_, _, _, _, rfl, h75⟩
  rw [← hW]; clear hW S
  have S : St w W19 [(g22, IsI 128 cz), (g20, IsI 128 cz), (g19, IsI 2 zb), (g17, IsI 8 pz), (g15, IsI 8 pz), (g13, IsI 8 tz), (g12, IsI 8 sz), (g10, IsI 8 tz), (g9, IsI 8 sz), (g8, IsI 8 za), (w.heap.size, IsR s1 x1)] := S2; clear S2 G2
  clear h75
  refine wpList_step fun K hK => ?_; go_simp; refine hK _ _ ?_; clear hK K
  refine wpList_nil ?_
  go_upto_region 12 with (fail)
  refine wp_region_rgs 37 [some 77, some 78, some 79, some 80, some 81, some 82, some 83, some 84, some 85, some 86, some 87, some 88, some 89, some 90, some 91, some 92, some 93, some 94, some 95, some 96, some 97, some 98, some 99, some 100, some 101, some 102, some 103, some 104, some 105, some 106, some 107, some 108, some 109, some 110, some 111, some 112, some 113] [IsV (.int .i64 e), IsV (.int .i64 e), IsV (.bool false), IsV (.bool false), IsV (.int .i64 0), IsV (.int .i64 0), IsV (.bool false), IsV (.bool false), IsV (.bool false), IsV (.int .i64 i), IsV (.int .i64 i), IsV (.bool false), IsV (.bool false), IsV (.bool false), IsI 8 sz, IsI 8 sz, IsV (.bool true), IsV (.bool false), IsV (.bool false), IsV (.bool false), IsI 8 tz, IsI 8 tz, IsV (.bool true), IsV (.bool false), IsV (.bool false), IsV (.bool false), IsI 8 pz, IsI 8 pz, IsV (.bool true), IsV (.bool false), IsV (.bool false), IsV (.bool false), IsI 128 cz, IsI 128 cz, IsV (.bool true), IsV (.bool false), IsV (.bool false)] [] (by decide) (by kernel_rfl) (by kernel_rfl) (by kernel_rfl) ?_ ?_ ?_ ?_
  · repeat' (first | exact trivial | exact IsV.stb _ | exact IsW.stb _ | exact IsWk.stb _ _ | exact IsI.stb _ _ | exact IsB.stb _ | exact IsR.stb _ _ | exact IsMag.stb _ _ | exact IsPos.stb | apply IsT3.stb | apply IsT2.stb | apply And.intro)
  · exact (fun _ h => by cases h)
  · refine RgAll.cons (by { (with_reducible refine RgL.mk (by rfl) ?_); intro v a w' hE hd hf; have ev0 := hf.lit 11 (.int .i64 e) (by kernel_rfl) (by kernel_rfl); clear hd hf; intro K hK; go_simp; exact hK.out _ _ (Ext.refl _) rfl (FreshIf.no rfl) }) ?_
    refine RgAll.cons (by { (with_reducible refine RgL.mk (by rfl) ?_); intro v a w' hE hd hf; have ev0 := hf.lit 14 (.int .i64 e) (by kernel_rfl) (by kernel_rfl); clear hd hf; intro K hK; go_simp; exact hK.out _ _ (Ext.refl _) rfl (FreshIf.no rfl) }) ?_
    refine RgAll.cons (by { (with_reducible refine RgL.mk (by rfl) ?_); intro v a w' hE hd hf; have d0 : v 0 = .int .i64 e := hd 0 (by kernel_rfl); have ev0 := hf.val 0 77 _ d0 (by kernel_rfl) (by kernel_rfl) (by kernel_rfl); clear d0; have d1 : v 1 = .int .i64 e := hd 1 (by kernel_rfl); have ev1 := hf.val 1 78 _ d1 (by kernel_rfl) (by kernel_rfl) (by kernel_rfl); clear d1; clear hd hf; intro K hK; go_simp; exact hK.out _ _ (Ext.refl _) rfl (FreshIf.no rfl) }) ?_
    refine RgAll.cons (by { (with_reducible refine RgL.mk (by rfl) ?_); intro v a w' hE hd hf; have d0 : v 2 = .bool false := hd 2 (by kernel_rfl); have ev0 := hf.val 2 79 _ d0 (by kernel_rfl) (by kernel_rfl) (by kernel_rfl); clear d0; clear hd hf; intro K hK; go_simp; exact hK.out _ _ (Ext.refl _) rfl (FreshIf.no rfl) }) ?_
    refine RgAll.cons (by { (with_reducible refine RgL.mkG 3 80 false (by rfl) (by kernel_rfl) (by kernel_rfl) (by kernel_rfl) (by kernel_rfl) (by kernel_rfl) ?_ ?_); (focus (intro _ _ h; exact h)); intro v a w' hE hd hf; have ev0 := hf.lit 16 (.int .i64 0) (by kernel_rfl) (by kernel_rfl); clear hd hf; intro K hK; go_simp; exact hK.out _ _ (Ext.refl _) rfl (FreshIf.no rfl) }) ?_
    refine RgAll.cons (by { (with_reducible refine RgL.mkG 3 80 false (by rfl) (by kernel_rfl) (by kernel_rfl) (by kernel_rfl) (by kernel_rfl) (by kernel_rfl) ?_ ?_); (focus (intro _ _ h; exact h)); intro v a w' hE hd hf; have ev0 := hf.lit 18 (.int .i64 0) (by kernel_rfl) (by kernel_rfl); clear hd hf; intro K hK; go_simp; exact hK.out _ _ (Ext.refl _) rfl (FreshIf.no rfl) }) ?_
    refine RgAll.cons (by { (with_reducible refine RgL.mkG 3 80 false (by rfl) (by kernel_rfl) (by kernel_rfl) (by kernel_rfl) (by kernel_rfl) (by kernel_rfl) ?_ ?_); (focus (intro _ _ h; exact h)); intro v a w' hE hd hf; have d0 : v 4 = .int .i64 0 := hd 4 (by kernel_rfl); have ev0 := hf.val 4 81 _ d0 (by kernel_rfl) (by kernel_rfl) (by kernel_rfl); clear d0; have d1 : v 5 = .int .i64 0 := hd 5 (by kernel_rfl); have ev1 := hf.val 5 82 _ d1 (by kernel_rfl) (by kernel_rfl) (by kernel_rfl); clear d1; clear hd hf; intro K hK; go_simp; exact hK.out _ _ (Ext.refl _) rfl (FreshIf.no rfl) }) ?_
    refine RgAll.cons (by { (with_reducible refine RgL.mk (by rfl) ?_); intro v a w' hE hd hf; have d0 : v 3 = .bool false := hd 3 (by kernel_rfl); have ev0 := hf.val 3 80 _ d0 (by kernel_rfl) (by kernel_rfl) (by kernel_rfl); clear d0; have d1 : v 6 = .bool false := hd 6 (by kernel_rfl); have ev1 := hf.val 6 83 _ d1 (by kernel_rfl) (by kernel_rfl) (by kernel_rfl); clear d1; clear hd hf; intro K hK; go_simp; exact hK.out _ _ (Ext.refl _) rfl (FreshIf.no rfl) }) ?_
    refine RgAll.cons (by { (with_reducible refine RgL.mk (by rfl) ?_); intro v a w' hE hd hf; have d0 : v 7 = .bool false := hd 7 (by kernel_rfl); have ev0 := hf.val 7 84 _ d0 (by kernel_rfl) (by kernel_rfl) (by kernel_rfl); clear d0; clear hd hf; intro K hK; go_simp; exact hK.out _ _ (Ext.refl _) rfl (FreshIf.no rfl) }) ?_
    refine RgAll.cons (by { (with_reducible refine RgL.mkG 8 85 false (by rfl) (by kernel_rfl) (by kernel_rfl) (by kernel_rfl) (by kernel_rfl) (by kernel_rfl) ?_ ?_); (focus (intro _ _ h; exact h)); intro v a w' hE hd hf; have ev0 := hf.lit 21 (.int .i64 i) (by kernel_rfl) (by kernel_rfl); clear hd hf; intro K hK; go_simp; exact hK.out _ _ (Ext.refl _) rfl (FreshIf.no rfl) }) ?_
    refine RgAll.cons (by { (with_reducible refine RgL.mkG 8 85 false (by rfl) (by kernel_rfl) (by kernel_rfl) (by kernel_rfl) (by kernel_rfl) (by kernel_rfl) ?_ ?_); (focus (intro _ _ h; exact h)); intro v a w' hE hd hf; have ev0 := hf.lit 23 (.int .i64 i) (by kernel_rfl) (by kernel_rfl); clear hd hf; intro K hK; go_simp; exact hK.out _ _ (Ext.refl _) rfl (FreshIf.no rfl) }) ?_
    refine RgAll.cons (by { (with_reducible refine RgL.mkG 8 85 false (by rfl) (by kernel_rfl) (by kernel_rfl) (by kernel_rfl) (by kernel_rfl) (by kernel_rfl) ?_ ?_); (focus (intro _ _ h; exact h)); intro v a w' hE hd hf; have d0 : v 9 = .int .i64 i := hd 9 (by kernel_rfl); have ev0 := hf.val 9 86 _ d0 (by kernel_rfl) (by kernel_rfl) (by kernel_rfl); clear d0; have d1 : v 10 = .int .i64 i := hd 10 (by kernel_rfl); have ev1 := hf.val 10 87 _ d1 (by kernel_rfl) (by kernel_rfl) (by kernel_rfl); clear d1; clear hd hf; intro K hK; go_simp; exact hK.out _ _ (Ext.refl _) rfl (FreshIf.no rfl) }) ?_
    refine RgAll.cons (by { (with_reducible refine RgL.mk (by rfl) ?_); intro v a w' hE hd hf; have d0 : v 8 = .bool false := hd 8 (by kernel_rfl); have ev0 := hf.val 8 85 _ d0 (by kernel_rfl) (by kernel_rfl) (by kernel_rfl); clear d0; have d1 : v 11 = .bool false := hd 11 (by kernel_rfl); have ev1 := hf.val 11 88 _ d1 (by kernel_rfl) (by kernel_rfl) (by kernel_rfl); clear d1; clear hd hf; intro K hK; go_simp; exact hK.out _ _ (Ext.refl _) rfl (FreshIf.no rfl) }) ?_
    refine RgAll.cons (by { (with_reducible refine RgL.mk (by rfl) ?_); intro v a w' hE hd hf; have d0 : v 12 = .bool false := hd 12 (by kernel_rfl); have ev0 := hf.val 12 89 _ d0 (by kernel_rfl) (by kernel_rfl) (by kernel_rfl); clear d0; clear hd hf; intro K hK; go_simp; exact hK.out _ _ (Ext.refl _) rfl (FreshIf.no rfl) }) ?_
    refine RgAll.cons (by { (with_reducible refine RgL.mkG 13 90 false (by rfl) (by kernel_rfl) (by kernel_rfl) (by kernel_rfl) (by kernel_rfl) (by kernel_rfl) ?_ ?_); (focus (intro _ _ h; exact h)); intro v a w' hE hd hf; have ev0 := hf.lit 9 (.pointer (some ⟨g9, 0, none⟩)) (by kernel_rfl) (by kernel_rfl); obtain ⟨s8, a8, n8, c8, b8, h8⟩ := (S.mono hE).at 8 (g9) (IsI 8 sz) rfl; have L0 := b8.c0; have L1 := b8.c1; clear hd hf; intro K hK; go_simp; exact hK.out _ _ (Ext.refl _) h8 (FreshIf.no rfl) }) ?_
    refine RgAll.cons (by { (with_reducible refine RgL.mkG 13 90 false (by rfl) (by kernel_rfl) (by kernel_rfl) (by kernel_rfl) (by kernel_rfl) (by kernel_rfl) ?_ ?_); (focus (intro _ _ h; exact h)); intro v a w' hE hd hf; have ev0 := hf.lit 12 (.pointer (some ⟨g12, 0, none⟩)) (by kernel_rfl) (by kernel_rfl); obtain ⟨s8, a8, n8, c8, b8, h8⟩ := (S.mono hE).at 6 (g12) (IsI 8 sz) rfl; have L0 := b8.c0; have L1 := b8.c1; clear hd hf; intro K hK; go_simp; exact hK.out _ _ (Ext.refl _) h8 (FreshIf.no rfl) }) ?_
    refine RgAll.cons (by { (with_reducible refine RgL.mkG 13 90 false (by rfl) (by kernel_rfl) (by kernel_rfl) (by kernel_rfl) (by kernel_rfl) (by kernel_rfl) ?_ ?_); (focus (intro _ _ h; exact h)); intro v a w' hE hd hf; have d0 : (IsI 8 sz) (v 14) w' := hd 14 (by kernel_rfl); have ev0 := hf.val 14 91 _ rfl (by kernel_rfl) (by kernel_rfl) (by kernel_rfl); have d1 : (IsI 8 sz) (v 15) w' := hd 15 (by kernel_rfl); have ev1 := hf.val 15 92 _ rfl (by kernel_rfl) (by kernel_rfl) (by kernel_rfl); clear hd hf; intro K hK; go_simp; go_at_call 11; go_split_ands; (with_reducible refine Calls.mono (Same_t d0 d1 (rfl) (by decide)) ?_); rintro e w2 ⟨x, rfl, e2, hx⟩; exact hK.out _ _ e2 hx (FreshIf.no rfl) }) ?_
    refine RgAll.cons (by { (with_reducible refine RgL.mkG 13 90 false (by rfl) (by kernel_rfl) (by kernel_rfl) (by kernel_rfl) (by kernel_rfl) (by kernel_rfl) ?_ ?_); (focus (intro _ _ h; exact h)); intro v a w' hE hd hf; have d0 : v 16 = .bool true := hd 16 (by kernel_rfl); have ev0 := hf.val 16 93 _ d0 (by kernel_rfl) (by kernel_rfl) (by kernel_rfl); clear d0; clear hd hf; intro K hK; go_simp; exact hK.out _ _ (Ext.refl _) rfl (FreshIf.no rfl) }) ?_
    refine RgAll.cons (by { (with_reducible refine RgL.mk (by rfl) ?_); intro v a w' hE hd hf; have d0 : v 13 = .bool false := hd 13 (by kernel_rfl); have ev0 := hf.val 13 90 _ d0 (by kernel_rfl) (by kernel_rfl) (by kernel_rfl); clear d0; have d1 : v 17 = .bool false := hd 17 (by kernel_rfl); have ev1 := hf.val 17 94 _ d1 (by kernel_rfl) (by kernel_rfl) (by kernel_rfl); clear d1; clear hd hf; intro K hK; go_simp; exact hK.out _ _ (Ext.refl _) rfl (FreshIf.no rfl) }) ?_
    refine RgAll.cons (by { (with_reducible refine RgL.mk (by rfl) ?_); intro v a w' hE hd hf; have d0 : v 18 = .bool false := hd 18 (by kernel_rfl); have ev0 := hf.val 18 95 _ d0 (by kernel_rfl) (by kernel_rfl) (by kernel_rfl); clear d0; clear hd hf; intro K hK; go_simp; exact hK.out _ _ (Ext.refl _) rfl (FreshIf.no rfl) }) ?_
    refine RgAll.cons (by { (with_reducible refine RgL.mkG 19 96 false (by rfl) (by kernel_rfl) (by kernel_rfl) (by kernel_rfl) (by kernel_rfl) (by kernel_rfl) ?_ ?_); (focus (intro _ _ h; exact h)); intro v a w' hE hd hf; have ev0 := hf.lit 10 (.pointer (some ⟨g10, 0, none⟩)) (by kernel_rfl) (by kernel_rfl); obtain ⟨s8, a8, n8, c8, b8, h8⟩ := (S.mono hE).at 7 (g10) (IsI 8 tz) rfl; have L0 := b8.c0; have L1 := b8.c1; clear hd hf; intro K hK; go_simp; exact hK.out _ _ (Ext.refl _) h8 (FreshIf.no rfl) }) ?_
    refine RgAll.cons (by { (with_reducible refine RgL.mkG 19 96 false (by rfl) (by kernel_rfl) (by kernel_rfl) (by kernel_rfl) (by kernel_rfl) (by kernel_rfl) ?_ ?_); (focus (intro _ _ h; exact h)); intro v a w' hE hd hf; have ev0 := hf.lit 13 (.pointer (some ⟨g13, 0, none⟩)) (by kernel_rfl) (by kernel_rfl); obtain ⟨s8, a8, n8, c8, b8, h8⟩ := (S.mono hE).at 5 (g13) (IsI 8 tz) rfl; have L0 := b8.c0; have L1 := b8.c1; clear hd hf; intro K hK; go_simp; exact hK.out _ _ (Ext.refl _) h8 (FreshIf.no rfl) }) ?_
    refine RgAll.cons (by { (with_reducible refine RgL.mkG 19 96 false (by rfl) (by kernel_rfl) (by kernel_rfl) (by kernel_rfl) (by kernel_rfl) (by kernel_rfl) ?_ ?_); (focus (intro _ _ h; exact h)); intro v a w' hE hd hf; have d0 : (IsI 8 tz) (v 20) w' := hd 20 (by kernel_rfl); have ev0 := hf.val 20 97 _ rfl (by kernel_rfl) (by kernel_rfl) (by kernel_rfl); have d1 : (IsI 8 tz) (v 21) w' := hd 21 (by kernel_rfl); have ev1 := hf.val 21 98 _ rfl (by kernel_rfl) (by kernel_rfl) (by kernel_rfl); clear hd hf; intro K hK; go_simp; go_at_call 11; go_split_ands; (with_reducible refine Calls.mono (Same_t d0 d1 (rfl) (by decide)) ?_); rintro e w2 ⟨x, rfl, e2, hx⟩; exact hK.out _ _ e2 hx (FreshIf.no rfl) }) ?_
    refine RgAll.cons (by { (with_reducible refine RgL.mkG 19 96 false (by rfl) (by kernel_rfl) (by kernel_rfl) (by kernel_rfl) (by kernel_rfl) (by kernel_rfl) ?_ ?_); (focus (intro _ _ h; exact h)); intro v a w' hE hd hf; have d0 : v 22 = .bool true := hd 22 (by kernel_rfl); have ev0 := hf.val 22 99 _ d0 (by kernel_rfl) (by kernel_rfl) (by kernel_rfl); clear d0; clear hd hf; intro K hK; go_simp; exact hK.out _ _ (Ext.refl _) rfl (FreshIf.no rfl) }) ?_
    refine RgAll.cons (by { (with_reducible refine RgL.mk (by rfl) ?_); intro v a w' hE hd hf; have d0 : v 19 = .bool false := hd 19 (by kernel_rfl); have ev0 := hf.val 19 96 _ d0 (by kernel_rfl) (by kernel_rfl) (by kernel_rfl); clear d0; have d1 : v 23 = .bool false := hd 23 (by kernel_rfl); have ev1 := hf.val 23 100 _ d1 (by kernel_rfl) (by kernel_rfl) (by kernel_rfl); clear d1; clear hd hf; intro K hK; go_simp; exact hK.out _ _ (Ext.refl _) rfl (FreshIf.no rfl) }) ?_
    refine RgAll.cons (by { (with_reducible refine RgL.mk (by rfl) ?_); intro v a w' hE hd hf; have d0 : v 24 = .bool false := hd 24 (by kernel_rfl); have ev0 := hf.val 24 101 _ d0 (by kernel_rfl) (by kernel_rfl) (by kernel_rfl); clear d0; clear hd hf; intro K hK; go_simp; exact hK.out _ _ (Ext.refl _) rfl (FreshIf.no rfl) }) ?_
    refine RgAll.cons (by { (with_reducible refine RgL.mkG 25 102 false (by rfl) (by kernel_rfl) (by kernel_rfl) (by kernel_rfl) (by kernel_rfl) (by kernel_rfl) ?_ ?_); (focus (intro _ _ h; exact h)); intro v a w' hE hd hf; have ev0 := hf.lit 15 (.pointer (some ⟨g15, 0, none⟩)) (by kernel_rfl) (by kernel_rfl); obtain ⟨s8, a8, n8, c8, b8, h8⟩ := (S.mono hE).at 4 (g15) (IsI 8 pz) rfl; have L0 := b8.c0; have L1 := b8.c1; clear hd hf; intro K hK; go_simp; exact hK.out _ _ (Ext.refl _) h8 (FreshIf.no rfl) }) ?_
    refine RgAll.cons (by { (with_reducible refine RgL.mkG 25 102 false (by rfl) (by kernel_rfl) (by kernel_rfl) (by kernel_rfl) (by kernel_rfl) (by kernel_rfl) ?_ ?_); (focus (intro _ _ h; exact h)); intro v a w' hE hd hf; have ev0 := hf.lit 17 (.pointer (some ⟨g17, 0, none⟩)) (by kernel_rfl) (by kernel_rfl); obtain ⟨s8, a8, n8, c8, b8, h8⟩ := (S.mono hE).at 3 (g17) (IsI 8 pz) rfl; have L0 := b8.c0; have L1 := b8.c1; clear hd hf; intro K hK; go_simp; exact hK.out _ _ (Ext.refl _) h8 (FreshIf.no rfl) }) ?_
    refine RgAll.cons (by { (with_reducible refine RgL.mkG 25 102 false (by rfl) (by kernel_rfl) (by kernel_rfl) (by kernel_rfl) (by kernel_rfl) (by kernel_rfl) ?_ ?_); (focus (intro _ _ h; exact h)); intro v a w' hE hd hf; have d0 : (IsI 8 pz) (v 26) w' := hd 26 (by kernel_rfl); have ev0 := hf.val 26 103 _ rfl (by kernel_rfl) (by kernel_rfl) (by kernel_rfl); have d1 : (IsI 8 pz) (v 27) w' := hd 27 (by kernel_rfl); have ev1 := hf.val 27 104 _ rfl (by kernel_rfl) (by kernel_rfl) (by kernel_rfl); clear hd hf; intro K hK; go_simp; go_at_call 11; go_split_ands; (with_reducible refine Calls.mono (Same_t d0 d1 (rfl) (by decide)) ?_); rintro e w2 ⟨x, rfl, e2, hx⟩; exact hK.out _ _ e2 hx (FreshIf.no rfl) }) ?_
    refine RgAll.cons (by { (with_reducible refine RgL.mkG 25 102 false (by rfl) (by kernel_rfl) (by kernel_rfl) (by kernel_rfl) (by kernel_rfl) (by kernel_rfl) ?_ ?_); (focus (intro _ _ h; exact h)); intro v a w' hE hd hf; have d0 : v 28 = .bool true := hd 28 (by kernel_rfl); have ev0 := hf.val 28 105 _ d0 (by kernel_rfl) (by kernel_rfl) (by kernel_rfl); clear d0; clear hd hf; intro K hK; go_simp; exact hK.out _ _ (Ext.refl _) rfl (FreshIf.no rfl) }) ?_
    refine RgAll.cons (by { (with_reducible refine RgL.mk (by rfl) ?_); intro v a w' hE hd hf; have d0 : v 25 = .bool false := hd 25 (by kernel_rfl); have ev0 := hf.val 25 102 _ d0 (by kernel_rfl) (by kernel_rfl) (by kernel_rfl); clear d0; have d1 : v 29 = .bool false := hd 29 (by kernel_rfl); have ev1 := hf.val 29 106 _ d1 (by kernel_rfl) (by kernel_rfl) (by kernel_rfl); clear d1; clear hd hf; intro K hK; go_simp; exact hK.out _ _ (Ext.refl _) rfl (FreshIf.no rfl) }) ?_
    refine RgAll.cons (by { (with_reducible refine RgL.mk (by rfl) ?_); intro v a w' hE hd hf; have d0 : v 30 = .bool false := hd 30 (by kernel_rfl); have ev0 := hf.val 30 107 _ d0 (by kernel_rfl) (by kernel_rfl) (by kernel_rfl); clear d0; clear hd hf; intro K hK; go_simp; exact hK.out _ _ (Ext.refl _) rfl (FreshIf.no rfl) }) ?_
    refine RgAll.cons (by { (with_reducible refine RgL.mkG 31 108 false (by rfl) (by kernel_rfl) (by kernel_rfl) (by kernel_rfl) (by kernel_rfl) (by kernel_rfl) ?_ ?_); (focus (intro _ _ h; exact h)); intro v a w' hE hd hf; have ev0 := hf.lit 20 (.pointer (some ⟨g20, 0, none⟩)) (by kernel_rfl) (by kernel_rfl); obtain ⟨s8, a8, n8, c8, b8, h8⟩ := (S.mono hE).at 1 (g20) (IsI 128 cz) rfl; have L0 := b8.c0; have L1 := b8.c1; clear hd hf; intro K hK; go_simp; exact hK.out _ _ (Ext.refl _) h8 (FreshIf.no rfl) }) ?_
    refine RgAll.cons (by { (with_reducible refine RgL.mkG 31 108 false (by rfl) (by kernel_rfl) (by kernel_rfl) (by kernel_rfl) (by kernel_rfl) (by kernel_rfl) ?_ ?_); (focus (intro _ _ h; exact h)); intro v a w' hE hd hf; have ev0 := hf.lit 22 (.pointer (some ⟨g22, 0, none⟩)) (by kernel_rfl) (by kernel_rfl); obtain ⟨s8, a8, n8, c8, b8, h8⟩ := (S.mono hE).at 0 (g22) (IsI 128 cz) rfl; have L0 := b8.c0; have L1 := b8.c1; clear hd hf; intro K hK; go_simp; exact hK.out _ _ (Ext.refl _) h8 (FreshIf.no rfl) }) ?_
    refine RgAll.cons (by { (with_reducible refine RgL.mkG 31 108 false (by rfl) (by kernel_rfl) (by kernel_rfl) (by kernel_rfl) (by kernel_rfl) (by kernel_rfl) ?_ ?_); (focus (intro _ _ h; exact h)); intro v a w' hE hd hf; have d0 : (IsI 128 cz) (v 32) w' := hd 32 (by kernel_rfl); have ev0 := hf.val 32 109 _ rfl (by kernel_rfl) (by kernel_rfl) (by kernel_rfl); have d1 : (IsI 128 cz) (v 33) w' := hd 33 (by kernel_rfl); have ev1 := hf.val 33 110 _ rfl (by kernel_rfl) (by kernel_rfl) (by kernel_rfl); clear hd hf; intro K hK; go_simp; go_at_call 11; go_split_ands; (with_reducible refine Calls.mono (Same_t d0 d1 (rfl) (by decide)) ?_); rintro e w2 ⟨x, rfl, e2, hx⟩; exact hK.out _ _ e2 hx (FreshIf.no rfl) }) ?_
    refine RgAll.cons (by { (with_reducible refine RgL.mkG 31 108 false (by rfl) (by kernel_rfl) (by kernel_rfl) (by kernel_rfl) (by kernel_rfl) (by kernel_rfl) ?_ ?_); (focus (intro _ _ h; exact h)); intro v a w' hE hd hf; have d0 : v 34 = .bool true := hd 34 (by kernel_rfl); have ev0 := hf.val 34 111 _ d0 (by kernel_rfl) (by kernel_rfl) (by kernel_rfl); clear d0; clear hd hf; intro K hK; go_simp; exact hK.out _ _ (Ext.refl _) rfl (FreshIf.no rfl) }) ?_
    refine RgAll.cons (by { (with_reducible refine RgL.mk (by rfl) ?_); intro v a w' hE hd hf; have d0 : v 31 = .bool false := hd 31 (by kernel_rfl); have ev0 := hf.val 31 108 _ d0 (by kernel_rfl) (by kernel_rfl) (by kernel_rfl); clear d0; have d1 : v 35 = .bool false := hd 35 (by kernel_rfl); have ev1 := hf.val 35 112 _ d1 (by kernel_rfl) (by kernel_rfl) (by kernel_rfl); clear d1; clear hd hf; intro K hK; go_simp; exact hK.out _ _ (Ext.refl _) rfl (FreshIf.no rfl) }) ?_
    exact RgAll.nil
  intro v W20 e1 hΦ _
  replace S := S.mono e1
  have v36 : v 36 = .bool false := hΦ 36 (by decide)
  simp only [layL, Act.put, List.setIfInBounds_toArray, List.set_cons_zero, List.set_cons_succ, Nat.reduceAdd]
  rw [v36]
  clear v36
  clear hΦ
  clear e1
  refine wpList_nil ?_
  go_upto_region 14 with (fail)
  refine wp_region_rgs 6 [some 114, some 115, some 116, some 117, some 118, some 119] [IsV (.int .i64 0), IsV (.bool false), IsV (.bool false), IsV (.int .i64 kk), IsV (.bool true), IsV (.bool true)] [] (by decide) (by kernel_rfl) (by kernel_rfl) (by kernel_rfl) ?_ ?_ ?_ ?_
  · repeat' (first | exact trivial | exact IsV.stb _ | exact IsW.stb _ | exact IsWk.stb _ _ | exact IsI.stb _ _ | exact IsB.stb _ | exact IsR.stb _ _ | exact IsMag.stb _ _ | exact IsPos.stb | apply IsT3.stb | apply IsT2.stb | apply And.intro)
  · exact (fun _ h => by cases h)
  · refine RgAll.cons (by { (with_reducible refine RgL.mk (by rfl) ?_); intro v a w' hE hd hf; have ev0 := hf.lit 16 (.int .i64 0) (by kernel_rfl) (by kernel_rfl); clear hd hf; intro K hK; go_simp; exact hK.out _ _ (Ext.refl _) rfl (FreshIf.no rfl) }) ?_
    refine RgAll.cons (by { (with_reducible refine RgL.mk (by rfl) ?_); intro v a w' hE hd hf; have d0 : v 0 = .int .i64 0 := hd 0 (by kernel_rfl); have ev0 := hf.val 0 114 _ d0 (by kernel_rfl) (by kernel_rfl) (by kernel_rfl); clear d0; clear hd hf; intro K hK; go_simp; exact hK.out _ _ (Ext.refl _) rfl (FreshIf.no rfl) }) ?_
    refine RgAll.cons (by { (with_reducible refine RgL.mk (by rfl) ?_); intro v a w' hE hd hf; have d0 : v 1 = .bool false := hd 1 (by kernel_rfl); have ev0 := hf.val 1 115 _ d0 (by kernel_rfl) (by kernel_rfl) (by kernel_rfl); clear d0; clear hd hf; intro K hK; go_simp; exact hK.out _ _ (Ext.refl _) rfl (FreshIf.no rfl) }) ?_
    refine RgAll.cons (by { (with_reducible refine RgL.mkG 2 116 false (by rfl) (by kernel_rfl) (by kernel_rfl) (by kernel_rfl) (by kernel_rfl) (by kernel_rfl) ?_ ?_); (focus (intro _ _ h; exact h)); intro v a w' hE hd hf; have ev0 := hf.lit 1 (.int .i64 kk) (by kernel_rfl) (by kernel_rfl); clear hd hf; intro K hK; go_simp; exact hK.out _ _ (Ext.refl _) rfl (FreshIf.no rfl) }) ?_
    refine RgAll.cons (by { (with_reducible refine RgL.mkG 2 116 false (by rfl) (by kernel_rfl) (by kernel_rfl) (by kernel_rfl) (by kernel_rfl) (by kernel_rfl) ?_ ?_); (focus (intro _ _ h; exact h)); intro v a w' hE hd hf; have d0 : v 3 = .int .i64 kk := hd 3 (by kernel_rfl); have ev0 := hf.val 3 117 _ d0 (by kernel_rfl) (by kernel_rfl) (by kernel_rfl); clear d0; have hx9 := HK.out; clear hd hf; intro K hK; go_simp; exact hK.out _ _ (Ext.refl _) rfl (FreshIf.no rfl) }) ?_
    refine RgAll.cons (by { (with_reducible refine RgL.mk (by rfl) ?_); intro v a w' hE hd hf; have d0 : v 2 = .bool false := hd 2 (by kernel_rfl); have ev0 := hf.val 2 116 _ d0 (by kernel_rfl) (by kernel_rfl) (by kernel_rfl); clear d0; have d1 : v 4 = .bool true := hd 4 (by kernel_rfl); have ev1 := hf.val 4 118 _ d1 (by kernel_rfl) (by kernel_rfl) (by kernel_rfl); clear d1; clear hd hf; intro K hK; go_simp; exact hK.out _ _ (Ext.refl _) rfl (FreshIf.no rfl) }) ?_
    exact RgAll.nil
  intro v W21 e1 hΦ _
  replace S := S.mono e1
  have v5 : v 5 = .bool true := hΦ 5 (by decide)
  simp only [layL, Act.put, List.setIfInBounds_toArray, List.set_cons_zero, List.set_cons_succ, Nat.reduceAdd]
  rw [v5]
  clear v5
  clear hΦ
  clear e1
  refine wpList_nil ?_
  go_upto_region 15 with (fail)
  refine wp_region_rgs 2 [some 120, some 6] [IsV (.bool true), IsV (.bool true)] [] (by decide) (by kernel_rfl) (by kernel_rfl) (by kernel_rfl) ?_ ?_ ?_ ?_
  · repeat' (first | exact trivial | exact IsV.stb _ | exact IsW.stb _ | exact IsWk.stb _ _ | exact IsI.stb _ _ | exact IsB.stb _ | exact IsR.stb _ _ | exact IsMag.stb _ _ | exact IsPos.stb | apply IsT3.stb | apply IsT2.stb | apply And.intro)
  · exact (fun _ h => by cases h)
  · refine RgAll.cons (by { (with_reducible refine RgL.mk (by rfl) ?_); intro v a w' hE hd hf; have ev0 := hf.lit 7 (.bool true) (by kernel_rfl) (by kernel_rfl); clear hd hf; intro K hK; go_simp; exact hK.out _ _ (Ext.refl _) rfl (FreshIf.no rfl) }) ?_
    refine RgAll.cons (by { (with_reducible refine RgL.mk (by rfl) ?_); intro v a w' hE hd hf; have d0 : v 0 = .bool true := hd 0 (by kernel_rfl); have ev0 := hf.val 0 120 _ d0 (by kernel_rfl) (by kernel_rfl) (by kernel_rfl); clear d0; clear hd hf; intro K hK; go_simp; exact hK.out _ _ (Ext.refl _) rfl (FreshIf.no rfl) }) ?_
    exact RgAll.nil
  intro v W22 e1 hΦ _
  replace S := S.mono e1
  have v1 : v 1 = .bool true := hΦ 1 (by decide)
  simp only [layL, Act.put, List.setIfInBounds_toArray, List.set_cons_zero, List.set_cons_succ, Nat.reduceAdd]
  rw [v1]
  clear v1
  clear hΦ
  clear e1
  refine wpList_nil ?_
  go_wp2_with fail
  exact bodyPost_ret (v := .bool true) (by simp [results, Tryz.results4, go_sem]) rfl (⟨_, rfl, S.ext, rfl⟩)
set_option maxRecDepth 100000 in
set_option maxHeartbeats 8000000 in
theorem Roots_small (w : World) (s1 : Bool) (a1 : Option Addr) (n1 c1 : Nat) (x1 : List Nat) (nn : Int) (h1 : Wd w a1 n1 c1 x1) (ht : Tab w) (kn r : Nat) (za zb sz tz cz e i : Int) (ha : rawZ s1 x1 8 = za) (hb : rawZ s1 (x1.take (min x1.length 2)) 2 = zb)
    (hS : ∀ (x : Value) (w : World), IsI 8 za x w → Calls Tryz.prog 29 #[x] w (Ret w (IsT3 (IsI 8 sz) (IsI 8 tz) (IsV (.int .i64 e)))))
    (hS2 : ∀ (x : Value) (w : World), IsI 8 za x w → Calls Tryz.prog 30 #[x] w (Ret w (IsT3 (IsI 8 sz) (IsI 8 tz) (IsV (.int .i64 e)))))
    (hR : ∀ (x : Value) (w : World), IsI 8 za x w → Calls Tryz.prog 31 #[x, .int .i64 (kn : Nat)] w (Ret w (IsT2 (IsI 8 (r : Nat)) (IsV (.int .i64 0)))))
    (hR2 : ∀ (x : Value) (w : World), IsI 8 za x w → Calls Tryz.prog 32 #[x, .int .i64 (kn : Nat)] w (Ret w (IsT2 (IsI 8 (r : Nat)) (IsV (.int .i64 0)))))
    (hP : ∀ (x : Value) (w : World), IsI 2 zb x w → Calls Tryz.prog 33 #[x, .int .i64 nn] w (Ret w (IsT2 (IsI 128 cz) (IsV (.int .i64 i)))))
    (hP2 : ∀ (x : Value) (w : World), IsI 2 zb x w → Calls Tryz.prog 34 #[x, .int .i64 nn] w (Ret w (IsT2 (IsI 128 cz) (IsV (.int .i64 i))))) (hk : kn ≤ 40) (hr : (r : Int) ^ kn ≤ za ∧ za < ((r : Int) + 1) ^ kn) :
    Calls Tryz.prog 4 #[.agg #[.bool s1, .slice a1 n1 c1], .int .i64 (kn : Nat), .int .i64 nn] w (Ret w (IsV (.bool true))) := by
  obtain ⟨m, hm⟩ : ∃ m, m = min x1.length 2 := ⟨_, rfl⟩
  rw [← hm] at hb
  have Ha := hid ha
  have Hb := hid hb
  have HS := hid hS
  have HS2 := hid hS2
  have HR := hid hR
  have HR2 := hid hR2
  have HP := hid hP
  have HP2 := hid hP2
  have HMI := hid (show min (x1.length : Int) 2 = (m : Int) by omega)
  have HML := hid (show m ≤ x1.length by omega)
  clear ha hb hS hS2 hR hR2 hP hP2 hm
  have HK := hid (show decide ((40 : Int) < ((kn : Nat) : Int)) = false by simp; omega)
  have HKL := hid hk
  obtain ⟨d1, hc1⟩ : ∃ c, cmpI ((r : Int) ^ kn) za = c := ⟨_, rfl⟩
  obtain ⟨d2, hc2⟩ : ∃ c, cmpI (((r : Int) + 1) ^ kn) za = c := ⟨_, rfl⟩
  have HC1 := hid (show cmpI ((r : Int) ^ kn) za = d1 ∧ decide (d1 ≤ 0) = true from ⟨hc1, by
    rcases Int.lt_or_eq_of_le hr.1 with h | h
    · rw [← hc1, cmpI_lt h]; decide
    · rw [← hc1, cmpI_eq h]; decide⟩)
  have HC2 := hid (show cmpI (((r : Int) + 1) ^ kn) za = d2 ∧ decide (0 < d2) = true from ⟨hc2, by rw [← hc2, cmpI_gt hr.2]; decide⟩)
  clear hk hr hc1 hc2
  obtain ⟨W, hW, S⟩ : ∃ W, W = w.alloc (.cells #[.bool s1, .slice a1 n1 c1] 24) ∧ St w W [(w.heap.size, IsR s1 x1)] := ⟨_, rfl, ((St.start w).new' (w.heap.size) (by simp) s1 a1 n1 c1 24 (IsR s1 x1) (IsR.gstb _ _) ⟨_, _, _, rfl, h1⟩)⟩
  clear h1
  go_enter Tryz.func4, Tryz.ntmps4
  go_upto_region 1 with (fail)
  rw [← hW]
  clear hW
  refine wp_region_rgs 2 [some 25, some 7] [IsV (.bool true), IsV (.bool true)] [] (by decide) (by kernel_rfl) (by kernel_rfl) (by kernel_rfl) ?_ ?_ ?_ ?_
  · repeat' (first | exact trivial | exact IsV.stb _ | exact IsW.stb _ | exact IsWk.stb _ _ | exact IsI.stb _ _ | exact IsB.stb _ | exact IsR.stb _ _ | exact IsMag.stb _ _ | exact IsPos.stb | apply IsT3.stb | apply IsT2.stb | apply And.intro)
  · exact (fun _ h => by cases h)
  · refine RgAll.cons (by { (with_reducible refine RgL.mk (by rfl) ?_); intro v a w' hE hd hf; skip; clear hd hf; intro K hK; go_simp; go_at_call 5; go_split_ands; (with_reducible refine Calls.mono (examples_f _ (ht.ext (S.ext.trans hE))) ?_); rintro e w2 ⟨x, rfl, e2, hx⟩; exact hK.out _ _ e2 hx (FreshIf.no rfl) }) ?_
    refine RgAll.cons (by { (with_reducible refine RgL.mk (by rfl) ?_); intro v a w' hE hd hf; have d0 : v 0 = .bool true := hd 0 (by kernel_rfl); have ev0 := hf.val 0 25 _ d0 (by kernel_rfl) (by kernel_rfl) (by kernel_rfl); clear d0; clear hd hf; intro K hK; go_simp; exact hK.out _ _ (Ext.refl _) rfl (FreshIf.no rfl) }) ?_
    exact RgAll.nil
  intro v W1 e1 hΦ _
  replace S := S.mono e1
  have v1 : v 1 = .bool true := hΦ 1 (by decide)
  simp only [layL, Act.put, List.setIfInBounds_toArray, List.set_cons_zero, List.set_cons_succ, Nat.reduceAdd]
  rw [v1]
  clear v1
  clear hΦ
  clear e1
  refine wpList_nil ?_
  go_upto_region 4 with (fail)
  have hl := hid S.lt; have hw := S.ext.size
  refine wp_region_rgs 3 [some 28, some 29, some 8] [IsR s1 x1, IsI 8 za, IsB W1] [2] (by decide) (by kernel_rfl) (by kernel_rfl) (by kernel_rfl) ?_ ?_ ?_ ?_
  · repeat' (first | exact trivial | exact IsV.stb _ | exact IsW.stb _ | exact IsWk.stb _ _ | exact IsI.stb _ _ | exact IsB.stb _ | exact IsR.stb _ _ | exact IsMag.stb _ _ | exact IsPos.stb | apply IsT3.stb | apply IsT2.stb | apply And.intro)
  · intro i hi; simp only [List.mem_cons, List.not_mem_nil, or_false] at hi; subst hi; exact IsB.box _
  · refine RgAll.cons (by { (with_reducible refine RgL.mk (by rfl) ?_); intro v a w' hE hd hf; have ev0 := hf.lit 3 (.pointer (some ⟨w.heap.size, 0, none⟩)) (by kernel_rfl) (by kernel_rfl); obtain ⟨s8, a8, n8, c8, b8, h8⟩ := (S.mono hE).at 0 (w.heap.size) (IsR s1 x1) rfl; have L0 := b8.c0; have L1 := b8.c1; clear hd hf; intro K hK; go_simp; exact hK.out _ _ (Ext.refl _) h8 (FreshIf.no rfl) }) ?_
    refine RgAll.cons (by { (with_reducible refine RgL.mk (by rfl) ?_); intro v a w' hE hd hf; have d0 : (IsR s1 x1) (v 0) w' := hd 0 (by kernel_rfl); have ev0 := hf.val 0 28 _ rfl (by kernel_rfl) (by kernel_rfl) (by kernel_rfl); clear hd hf; intro K hK; go_simp; go_at_call 6; go_split_ands; (with_reducible refine Calls.mono (Calls.mono (Made_f d0 (by decide)) fun _ _ h => h.eqz Ha.out) ?_); rintro e w2 ⟨x, rfl, e2, hx⟩; exact hK.out _ _ e2 hx (FreshIf.no rfl) }) ?_
    refine RgAll.cons (by { (with_reducible refine RgL.mk (by rfl) ?_); intro v a w' hE hd hf; skip; clear hd hf; intro K hK; go_simp; refine hK.out _ _ ((Ext.refl _).alloc _) ⟨_, rfl, hE.size, Bx.new _ _ _ _ _⟩ FreshIf.yes }) ?_
    exact RgAll.nil
  intro v W2 e1 hΦ _
  replace S := S.mono e1
  obtain ⟨s29, a29, n29, c29, v1, h29⟩ := (hΦ 1 (by decide) : IsI 8 za (v 1) W2)
  obtain ⟨g8, v2, q2, b1⟩ := (hΦ 2 (by decide) : IsB W1 (v 2) W2)
  replace S := S.addN (Apart.old hl.out q2) (Nat.le_trans hw q2) b1
  clear b1
  simp only [layL, Act.put, List.setIfInBounds_toArray, List.set_cons_zero, List.set_cons_succ, Nat.reduceAdd]
  rw [v1, v2]
  clear v1 v2
  clear hΦ
  clear hl hw
  clear e1
  obtain ⟨s8, a8, n8, c8, b8, _⟩ := S.at 0 (g8) (IsI 0 0) rfl; have F1 := b8.c0; have F2 := b8.c1; have F3 := b8.f0; have F4 := b8.f1
  refine wpList_step fun K hK => ?_; go_simp; refine hK _ _ ?_; clear hK K
  clear F1 F2 F3 F4 b8
  obtain ⟨W3, hW, S2, G2, _⟩ := S.put 0 (g8) (IsI 0 0) (IsI 8 za) rfl s29 a29 n29 c29 (IsI.gstb _ _) ⟨_, _, _, _, rfl, h29⟩
  rw [← hW]; clear hW S
  have S : St w W3 [(g8, IsI 8 za), (w.heap.size, IsR s1 x1)] := S2; clear S2 G2
  clear h29
  refine wpList_nil ?_
  go_upto_region 5 with (fail)
  have hl := hid S.lt; have hw := S.ext.size
  refine wp_region_rgs 8 [some 31, some 32, some 30, some 33, some 34, some 35, some 9, some 10] [IsI 8 za, IsT3 (IsI 8 sz) (IsI 8 tz) (IsV (.int .i64 e)), IsT3 (IsI 8 sz) (IsI 8 tz) (IsV (.int .i64 e)), IsI 8 sz, IsI 8 tz, IsV (.int .i64 e), IsB W3, IsB W3] [6, 7] (by decide) (by kernel_rfl) (by kernel_rfl) (by kernel_rfl) ?_ ?_ ?_ ?_
  · repeat' (first | exact trivial | exact IsV.stb _ | exact IsW.stb _ | exact IsWk.stb _ _ | exact IsI.stb _ _ | exact IsB.stb _ | exact IsR.stb _ _ | exact IsMag.stb _ _ | exact IsPos.stb | apply IsT3.stb | apply IsT2.stb | apply And.intro)
  · intro i hi; simp only [List.mem_cons, List.not_mem_nil, or_false] at hi; rcases hi with rfl | rfl <;> exact IsB.box _
  · refine RgAll.cons (by { (with_reducible refine RgL.mk (by rfl) ?_); intro v a w' hE hd hf; have ev0 := hf.lit 8 (.pointer (some ⟨g8, 0, none⟩)) (by kernel_rfl) (by kernel_rfl); obtain ⟨s8, a8, n8, c8, b8, h8⟩ := (S.mono hE).at 0 (g8) (IsI 8 za) rfl; have L0 := b8.c0; have L1 := b8.c1; clear hd hf; intro K hK; go_simp; exact hK.out _ _ (Ext.refl _) h8 (FreshIf.no rfl) }) ?_
    refine RgAll.cons (by { (with_reducible refine RgL.mk (by rfl) ?_); intro v a w' hE hd hf; have d0 : (IsI 8 za) (v 0) w' := hd 0 (by kernel_rfl); have ev0 := hf.val 0 31 _ rfl (by kernel_rfl) (by kernel_rfl) (by kernel_rfl); clear hd hf; intro K hK; go_simp; go_at_call 29; go_split_ands; (with_reducible refine Calls.mono (HS.out _ _ d0) ?_); rintro e w2 ⟨x, rfl, e2, hx⟩; exact hK.out _ _ e2 hx (FreshIf.no rfl) }) ?_
    refine RgAll.cons (by { (with_reducible refine RgL.mk (by rfl) ?_); intro v a w' hE hd hf; have d0 : (IsT3 (IsI 8 sz) (IsI 8 tz) (IsV (.int .i64 e))) (v 1) w' := hd 1 (by kernel_rfl); have ev0 := hf.val 1 32 _ rfl (by kernel_rfl) (by kernel_rfl) (by kernel_rfl); clear hd hf; intro K hK; go_simp; exact hK.out _ _ (Ext.refl _) d0 (FreshIf.no rfl) }) ?_
    refine RgAll.cons (by { (with_reducible refine RgL.mk (by rfl) ?_); intro v a w' hE hd hf; have d0 : (IsT3 (IsI 8 sz) (IsI 8 tz) (IsV (.int .i64 e))) (v 2) w' := hd 2 (by kernel_rfl); obtain ⟨x0, x1, x2, z0, y0, y1, y2⟩ := d0; have ev0 := hf.val 2 30 _ z0 (by kernel_rfl) (by kernel_rfl) (by kernel_rfl); clear z0; clear hd hf; intro K hK; go_simp; exact hK.out _ _ (Ext.refl _) y0 (FreshIf.no rfl) }) ?_
    refine RgAll.cons (by { (with_reducible refine RgL.mk (by rfl) ?_); intro v a w' hE hd hf; have d0 : (IsT3 (IsI 8 sz) (IsI 8 tz) (IsV (.int .i64 e))) (v 2) w' := hd 2 (by kernel_rfl); obtain ⟨x0, x1, x2, z0, y0, y1, y2⟩ := d0; have ev0 := hf.val 2 30 _ z0 (by kernel_rfl) (by kernel_rfl) (by kernel_rfl); clear z0; clear hd hf; intro K hK; go_simp; exact hK.out _ _ (Ext.refl _) y1 (FreshIf.no rfl) }) ?_
    refine RgAll.cons (by { (with_reducible refine RgL.mk (by rfl) ?_); intro v a w' hE hd hf; have d0 : (IsT3 (IsI 8 sz) (IsI 8 tz) (IsV (.int .i64 e))) (v 2) w' := hd 2 (by kernel_rfl); obtain ⟨x0, x1, x2, z0, y0, y1, y2⟩ := d0; have ev0 := hf.val 2 30 _ z0 (by kernel_rfl) (by kernel_rfl) (by kernel_rfl); clear z0; clear hd hf; intro K hK; go_simp; exact hK.out _ _ (Ext.refl _) y2 (FreshIf.no rfl) }) ?_
    refine RgAll.cons (by { (with_reducible refine RgL.mk (by rfl) ?_); intro v a w' hE hd hf; skip; clear hd hf; intro K hK; go_simp; refine hK.out _ _ ((Ext.refl _).alloc _) ⟨_, rfl, hE.size, Bx.new _ _ _ _ _⟩ FreshIf.yes }) ?_
    refine RgAll.cons (by { (with_reducible refine RgL.mk (by rfl) ?_); intro v a w' hE hd hf; skip; clear hd hf; intro K hK; go_simp; refine hK.out _ _ ((Ext.refl _).alloc _) ⟨_, rfl, hE.size, Bx.new _ _ _ _ _⟩ FreshIf.yes }) ?_
    exact RgAll.nil
  intro v W4 e1 hΦ hne
  replace S := S.mono e1
  obtain ⟨s33, a33, n33, c33, v3, h33⟩ := (hΦ 3 (by decide) : IsI 8 sz (v 3) W4)
  obtain ⟨s34, a34, n34, c34, v4, h34⟩ := (hΦ 4 (by decide) : IsI 8 tz (v 4) W4)
  have v5 : v 5 = .int .i64 e := hΦ 5 (by decide)
  obtain ⟨g9, v6, q4, b3⟩ := (hΦ 6 (by decide) : IsB W3 (v 6) W4)
  replace S := S.addN (Apart.old hl.out q4) (Nat.le_trans hw q4) b3
  clear b3
  obtain ⟨g10, v7, q6, b5⟩ := (hΦ 7 (by decide) : IsB W3 (v 7) W4)
  replace S := S.addN (Apart.cons (fun h => hne 6 7 (by decide) (by decide) (by decide) (by decide) (by decide) (by rw [v6, v7, h])) (Apart.old hl.out q6)) (Nat.le_trans hw q6) b5
  clear b5
  clear hne
  simp only [layL, Act.put, List.setIfInBounds_toArray, List.set_cons_zero, List.set_cons_succ, Nat.reduceAdd]
  rw [v3, v4, v5, v6, v7]
  clear v3 v4 v5 v6 v7
  clear hΦ
  clear hl hw
  clear e1
  obtain ⟨s8, a8, n8, c8, b8, _⟩ := S.at 1 (g9) (IsI 0 0) rfl; have F1 := b8.c0; have F2 := b8.c1; have F3 := b8.f0; have F4 := b8.f1
  refine wpList_step fun K hK => ?_; go_simp; refine hK _ _ ?_; clear hK K
  clear F1 F2 F3 F4 b8
  obtain ⟨W5, hW, S2, G2, _⟩ := S.put 1 (g9) (IsI 0 0) (IsI 8 sz) rfl s33 a33 n33 c33 (IsI.gstb _ _) ⟨_, _, _, _, rfl, h33⟩
  rw [← hW]; clear hW S
  replace h34 := h34.gr G2
  have S : St w W5 [(g10, IsI 0 0), (g9, IsI 8 sz), (g8, IsI 8 za), (w.heap.size, IsR s1 x1)] := S2; clear S2 G2
  clear h33
  obtain ⟨s8, a8, n8, c8, b8, _⟩ := S.at 0 (g10) (IsI 0 0) rfl; have F1 := b8.c0; have F2 := b8.c1; have F3 := b8.f0; have F4 := b8.f1
  refine wpList_step fun K hK => ?_; go_simp; refine hK _ _ ?_; clear hK K
  clear F1 F2 F3 F4 b8
  obtain ⟨W6, hW, S2, G2, _⟩ := S.put 0 (g10) (IsI 0 0) (IsI 8 tz) rfl s34 a34 n34 c34 (IsI.gstb _ _) ⟨_, _, _, _, rfl, h34⟩
  rw [← hW]; clear hW S
  have S : St w W6 [(g10, IsI 8 tz), (g9, IsI 8 sz), (g8, IsI 8 za), (w.heap.size, IsR s1 x1)] := S2; clear S2 G2
  clear h34
  refine wpList_step fun K hK => ?_; go_simp; refine hK _ _ ?_; clear hK K
  refine wpList_nil ?_
  go_upto_region 6 with (fail)
  have hl := hid S.lt; have hw := S.ext.size
  refine wp_region_rgs 8 [some 37, some 38, some 36, some 39, some 40, some 41, some 12, some 13] [IsI 8 za, IsT3 (IsI 8 sz) (IsI 8 tz) (IsV (.int .i64 e)), IsT3 (IsI 8 sz) (IsI 8 tz) (IsV (.int .i64 e)), IsI 8 sz, IsI 8 tz, IsV (.int .i64 e), IsB W6, IsB W6] [6, 7] (by decide) (by kernel_rfl) (by kernel_rfl) (by kernel_rfl) ?_ ?_ ?_ ?_
  · repeat' (first | exact trivial | exact IsV.stb _ | exact IsW.stb _ | exact IsWk.stb _ _ | exact IsI.stb _ _ | exact IsB.stb _ | exact IsR.stb _ _ | exact IsMag.stb _ _ | exact IsPos.stb | apply IsT3.stb | apply IsT2.stb | apply And.intro)
  · intro i hi; simp only [List.mem_cons, List.not_mem_nil, or_false] at hi; rcases hi with rfl | rfl <;> exact IsB.box _
  · refine RgAll.cons (by { (with_reducible refine RgL.mk (by rfl) ?_); intro v a w' hE hd hf; have ev0 := hf.lit 8 (.pointer (some ⟨g8, 0, none⟩)) (by kernel_rfl) (by kernel_rfl); obtain ⟨s8, a8, n8, c8, b8, h8⟩ := (S.mono hE).at 2 (g8) (IsI 8 za) rfl; have L0 := b8.c0; have L1 := b8.c1; clear hd hf; intro K hK; go_simp; exact hK.out _ _ (Ext.refl _) h8 (FreshIf.no rfl) }) ?_
    refine RgAll.cons (by { (with_reducible refine RgL.mk (by rfl) ?_); intro v a w' hE hd hf; have d0 : (IsI 8 za) (v 0) w' := hd 0 (by kernel_rfl); have ev0 := hf.val 0 37 _ rfl (by kernel_rfl) (by kernel_rfl) (by kernel_rfl); clear hd hf; intro K hK; go_simp; go_at_call 30; go_split_ands; (with_reducible refine Calls.mono (HS2.out _ _ d0) ?_); rintro e w2 ⟨x, rfl, e2, hx⟩; exact hK.out _ _ e2 hx (FreshIf.no rfl) }) ?_
    refine RgAll.cons (by { (with_reducible refine RgL.mk (by rfl) ?_); intro v a w' hE hd hf; have d0 : (IsT3 (IsI 8 sz) (IsI 8 tz) (IsV (.int .i64 e))) (v 1) w' := hd 1 (by kernel_rfl); have ev0 := hf.val 1 38 _ rfl (by kernel_rfl) (by kernel_rfl) (by kernel_rfl); clear hd hf; intro K hK; go_simp; exact hK.out _ _ (Ext.refl _) d0 (FreshIf.no rfl) }) ?_
    refine RgAll.cons (by { (with_reducible refine RgL.mk (by rfl) ?_); intro v a w' hE hd hf; have d0 : (IsT3 (IsI 8 sz) (IsI 8 tz) (IsV (.int .i64 e))) (v 2) w' := hd 2 (by kernel_rfl); obtain ⟨x0, x1, x2, z0, y0, y1, y2⟩ := d0; have ev0 := hf.val 2 36 _ z0 (by kernel_rfl) (by kernel_rfl) (by kernel_rfl); clear z0; clear hd hf; intro K hK; go_simp; exact hK.out _ _ (Ext.refl _) y0 (FreshIf.no rfl) }) ?_
    refine RgAll.cons (by { (with_reducible refine RgL.mk (by rfl) ?_); intro v a w' hE hd hf; have d0 : (IsT3 (IsI 8 sz) (IsI 8 tz) (IsV (.int .i64 e))) (v 2) w' := hd 2 (by kernel_rfl); obtain ⟨x0, x1, x2, z0, y0, y1, y2⟩ := d0; have ev0 := hf.val 2 36 _ z0 (by kernel_rfl) (by kernel_rfl) (by kernel_rfl); clear z0; clear hd hf; intro K hK; go_simp; exact hK.out _ _ (Ext.refl _) y1 (FreshIf.no rfl) }) ?_
    refine RgAll.cons (by { (with_reducible refine RgL.mk (by rfl) ?_); intro v a w' hE hd hf; have d0 : (IsT3 (IsI 8 sz) (IsI 8 tz) (IsV (.int .i64 e))) (v 2) w' := hd 2 (by kernel_rfl); obtain ⟨x0, x1, x2, z0, y0, y1, y2⟩ := d0; have ev0 := hf.val 2 36 _ z0 (by kernel_rfl) (by kernel_rfl) (by kernel_rfl); clear z0; clear hd hf; intro K hK; go_simp; exact hK.out _ _ (Ext.refl _) y2 (FreshIf.no rfl) }) ?_
    refine RgAll.cons (by { (with_reducible refine RgL.mk (by rfl) ?_); intro v a w' hE hd hf; skip; clear hd hf; intro K hK; go_simp; refine hK.out _ _ ((Ext.refl _).alloc _) ⟨_, rfl, hE.size, Bx.new _ _ _ _ _⟩ FreshIf.yes }) ?_
    refine RgAll.cons (by { (with_reducible refine RgL.mk (by rfl) ?_); intro v a w' hE hd hf; skip; clear hd hf; intro K hK; go_simp; refine hK.out _ _ ((Ext.refl _).alloc _) ⟨_, rfl, hE.size, Bx.new _ _ _ _ _⟩ FreshIf.yes }) ?_
    exact RgAll.nil
  intro v W7 e1 hΦ hne
  replace S := S.mono e1
  obtain ⟨s39, a39, n39, c39, v3, h39⟩ := (hΦ 3 (by decide) : IsI 8 sz (v 3) W7)
  obtain ⟨s40, a40, n40, c40, v4, h40⟩ := (hΦ 4 (by decide) : IsI 8 tz (v 4) W7)
  have v5 : v 5 = .int .i64 e := hΦ 5 (by decide)
  obtain ⟨g12, v6, q8, b7⟩ := (hΦ 6 (by decide) : IsB W6 (v 6) W7)
  replace S := S.addN (Apart.old hl.out q8) (Nat.le_trans hw q8) b7
  clear b7
  obtain ⟨g13, v7, q10, b9⟩ := (hΦ 7 (by decide) : IsB W6 (v 7) W7)
  replace S := S.addN (Apart.cons (fun h => hne 6 7 (by decide) (by decide) (by decide) (by decide) (by decide) (by rw [v6, v7, h])) (Apart.old hl.out q10)) (Nat.le_trans hw q10) b9
  clear b9
  clear hne
  simp only [layL, Act.put, List.setIfInBounds_toArray, List.set_cons_zero, List.set_cons_succ, Nat.reduceAdd]
  rw [v3, v4, v5, v6, v7]
  clear v3 v4 v5 v6 v7
  clear hΦ
  clear hl hw
  clear e1
  obtain ⟨s8, a8, n8, c8, b8, _⟩ := S.at 1 (g12) (IsI 0 0) rfl; have F1 := b8.c0; have F2 := b8.c1; have F3 := b8.f0; have F4 := b8.f1
  refine wpList_step fun K hK => ?_; go_simp; refine hK _ _ ?_; clear hK K
  clear F1 F2 F3 F4 b8
  obtain ⟨W8, hW, S2, G2, _⟩ := S.put 1 (g12) (IsI 0 0) (IsI 8 sz) rfl s39 a39 n39 c39 (IsI.gstb _ _) ⟨_, _, _, _, rfl, h39⟩
  rw [← hW]; clear hW S
  replace h40 := h40.gr G2
  have S : St w W8 [(g13, IsI 0 0), (g12, IsI 8 sz), (g10, IsI 8 tz), (g9, IsI 8 sz), (g8, IsI 8 za), (w.heap.size, IsR s1 x1)] := S2; clear S2 G2
  clear h39
  obtain ⟨s8, a8, n8, c8, b8, _⟩ := S.at 0 (g13) (IsI 0 0) rfl; have F1 := b8.c0; have F2 := b8.c1; have F3 := b8.f0; have F4 := b8.f1
  refine wpList_step fun K hK => ?_; go_simp; refine hK _ _ ?_; clear hK K
  clear F1 F2 F3 F4 b8
  obtain ⟨W9, hW, S2, G2, _⟩ := S.put 0 (g13) (IsI 0 0) (IsI 8 tz) rfl s40 a40 n40 c40 (IsI.gstb _ _) ⟨_, _, _, _, rfl, h40⟩
  rw [← hW]; clear hW S
  have S : St w W9 [(g13, IsI 8 tz), (g12, IsI 8 sz), (g10, IsI 8 tz), (g9, IsI 8 sz), (g8, IsI 8 za), (w.heap.size, IsR s1 x1)] := S2; clear S2 G2
  clear h40
  refine wpList_step fun K hK => ?_; go_simp; refine hK _ _ ?_; clear hK K
  refine wpList_nil ?_
  go_upto_region 7 with (fail)
  have hl := hid S.lt; have hw := S.ext.size
  refine wp_region_rgs 7 [some 43, some 44, some 45, some 42, some 46, some 47, some 15] [IsI 8 za, IsV (.int .i64 ((kn : Nat) : Int)), IsT2 (IsI 8 (((r : Nat) : Int))) (IsV (.int .i64 0)), IsT2 (IsI 8 (((r : Nat) : Int))) (IsV (.int .i64 0)), IsI 8 (((r : Nat) : Int)), IsV (.int .i64 0), IsB W9] [6] (by decide) (by kernel_rfl) (by kernel_rfl) (by kernel_rfl) ?_ ?_ ?_ ?_
  · repeat' (first | exact trivial | exact IsV.stb _ | exact IsW.stb _ | exact IsWk.stb _ _ | exact IsI.stb _ _ | exact IsB.stb _ | exact IsR.stb _ _ | exact IsMag.stb _ _ | exact IsPos.stb | apply IsT3.stb | apply IsT2.stb | apply And.intro)
  · intro i hi; simp only [List.mem_cons, List.not_mem_nil, or_false] at hi; subst hi; exact IsB.box _
  · refine RgAll.cons (by { (with_reducible refine RgL.mk (by rfl) ?_); intro v a w' hE hd hf; have ev0 := hf.lit 8 (.pointer (some ⟨g8, 0, none⟩)) (by kernel_rfl) (by kernel_rfl); obtain ⟨s8, a8, n8, c8, b8, h8⟩ := (S.mono hE).at 4 (g8) (IsI 8 za) rfl; have L0 := b8.c0; have L1 := b8.c1; clear hd hf; intro K hK; go_simp; exact hK.out _ _ (Ext.refl _) h8 (FreshIf.no rfl) }) ?_
    refine RgAll.cons (by { (with_reducible refine RgL.mk (by rfl) ?_); intro v a w' hE hd hf; have ev0 := hf.lit 1 (.int .i64 ((kn : Nat) : Int)) (by kernel_rfl) (by kernel_rfl); clear hd hf; intro K hK; go_simp; exact hK.out _ _ (Ext.refl _) rfl (FreshIf.no rfl) }) ?_
    refine RgAll.cons (by { (with_reducible refine RgL.mk (by rfl) ?_); intro v a w' hE hd hf; have d0 : (IsI 8 za) (v 0) w' := hd 0 (by kernel_rfl); have ev0 := hf.val 0 43 _ rfl (by kernel_rfl) (by kernel_rfl) (by kernel_rfl); have d1 : v 1 = .int .i64 ((kn : Nat) : Int) := hd 1 (by kernel_rfl); have ev1 := hf.val 1 44 _ d1 (by kernel_rfl) (by kernel_rfl) (by kernel_rfl); clear d1; clear hd hf; intro K hK; go_simp; go_at_call 31; go_split_ands; (with_reducible refine Calls.mono (HR.out _ _ d0) ?_); rintro e w2 ⟨x, rfl, e2, hx⟩; exact hK.out _ _ e2 hx (FreshIf.no rfl) }) ?_
    refine RgAll.cons (by { (with_reducible refine RgL.mk (by rfl) ?_); intro v a w' hE hd hf; have d0 : (IsT2 (IsI 8 (((r : Nat) : Int))) (IsV (.int .i64 0))) (v 2) w' := hd 2 (by kernel_rfl); have ev0 := hf.val 2 45 _ rfl (by kernel_rfl) (by kernel_rfl) (by kernel_rfl); clear hd hf; intro K hK; go_simp; exact hK.out _ _ (Ext.refl _) d0 (FreshIf.no rfl) }) ?_
    refine RgAll.cons (by { (with_reducible refine RgL.mk (by rfl) ?_); intro v a w' hE hd hf; have d0 : (IsT2 (IsI 8 (((r : Nat) : Int))) (IsV (.int .i64 0))) (v 3) w' := hd 3 (by kernel_rfl); obtain ⟨x0, x1, z0, y0, y1⟩ := d0; have ev0 := hf.val 3 42 _ z0 (by kernel_rfl) (by kernel_rfl) (by kernel_rfl); clear z0; clear hd hf; intro K hK; go_simp; exact hK.out _ _ (Ext.refl _) y0 (FreshIf.no rfl) }) ?_
    refine RgAll.cons (by { (with_reducible refine RgL.mk (by rfl) ?_); intro v a w' hE hd hf; have d0 : (IsT2 (IsI 8 (((r : Nat) : Int))) (IsV (.int .i64 0))) (v 3) w' := hd 3 (by kernel_rfl); obtain ⟨x0, x1, z0, y0, y1⟩ := d0; have ev0 := hf.val 3 42 _ z0 (by kernel_rfl) (by kernel_rfl) (by kernel_rfl); clear z0; clear hd hf; intro K hK; go_simp; exact hK.out _ _ (Ext.refl _) y1 (FreshIf.no rfl) }) ?_
    refine RgAll.cons (by { (with_reducible refine RgL.mk (by rfl) ?_); intro v a w' hE hd hf; skip; clear hd hf; intro K hK; go_simp; refine hK.out _ _ ((Ext.refl _).alloc _) ⟨_, rfl, hE.size, Bx.new _ _ _ _ _⟩ FreshIf.yes }) ?_
    exact RgAll.nil
  intro v W10 e1 hΦ _
  replace S := S.mono e1
  obtain ⟨s46, a46, n46, c46, v4, h46⟩ := (hΦ 4 (by decide) : IsI 8 (((r : Nat) : Int)) (v 4) W10)
  have v5 : v 5 = .int .i64 0 := hΦ 5 (by decide)
  obtain ⟨g15, v6, q12, b11⟩ := (hΦ 6 (by decide) : IsB W9 (v 6) W10)
  replace S := S.addN (Apart.old hl.out q12) (Nat.le_trans hw q12) b11
  clear b11
  simp only [layL, Act.put, List.setIfInBounds_toArray, List.set_cons_zero, List.set_cons_succ, Nat.reduceAdd]
  rw [v4, v5, v6]
  clear v4 v5 v6
  clear hΦ
  clear hl hw
  clear e1
  obtain ⟨s8, a8, n8, c8, b8, _⟩ := S.at 0 (g15) (IsI 0 0) rfl; have F1 := b8.c0; have F2 := b8.c1; have F3 := b8.f0; have F4 := b8.f1
  refine wpList_step fun K hK => ?_; go_simp; refine hK _ _ ?_; clear hK K
  clear F1 F2 F3 F4 b8
  obtain ⟨W11, hW, S2, G2, _⟩ := S.put 0 (g15) (IsI 0 0) (IsI 8 (((r : Nat) : Int))) rfl s46 a46 n46 c46 (IsI.gstb _ _) ⟨_, _, _, _, rfl, h46⟩
  rw [← hW]; clear hW S
  have S : St w W11 [(g15, IsI 8 (((r : Nat) : Int))), (g13, IsI 8 tz), (g12, IsI 8 sz), (g10, IsI 8 tz), (g9, IsI 8 sz), (g8, IsI 8 za), (w.heap.size, IsR s1 x1)] := S2; clear S2 G2
  clear h46
  refine wpList_step fun K hK => ?_; go_simp; refine hK _ _ ?_; clear hK K
  refine wpList_nil ?_
  go_upto_region 8 with (fail)
  have hl := hid S.lt; have hw := S.ext.size
  refine wp_region_rgs 7 [some 49, some 50, some 51, some 48, some 52, some 53, some 17] [IsI 8 za, IsV (.int .i64 ((kn : Nat) : Int)), IsT2 (IsI 8 (((r : Nat) : Int))) (IsV (.int .i64 0)), IsT2 (IsI 8 (((r : Nat) : Int))) (IsV (.int .i64 0)), IsI 8 (((r : Nat) : Int)), IsV (.int .i64 0), IsB W11] [6] (by decide) (by kernel_rfl) (by kernel_rfl) (by kernel_rfl) ?_ ?_ ?_ ?_
  · repeat' (first | exact trivial | exact IsV.stb _ | exact IsW.stb _ | exact IsWk.stb _ _ | exact IsI.stb _ _ | exact IsB.stb _ | exact IsR.stb _ _ | exact IsMag.stb _ _ | exact IsPos.stb | apply IsT3.stb | apply IsT2.stb | apply And.intro)
  · intro i hi; simp only [List.mem_cons, List.not_mem_nil, or_false] at hi; subst hi; exact IsB.box _
  · refine RgAll.cons (by { (with_reducible refine RgL.mk (by rfl) ?_); intro v a w' hE hd hf; have ev0 := hf.lit 8 (.pointer (some ⟨g8, 0, none⟩)) (by kernel_rfl) (by kernel_rfl); obtain ⟨s8, a8, n8, c8, b8, h8⟩ := (S.mono hE).at 5 (g8) (IsI 8 za) rfl; have L0 := b8.c0; have L1 := b8.c1; clear hd hf; intro K hK; go_simp; exact hK.out _ _ (Ext.refl _) h8 (FreshIf.no rfl) }) ?_
    refine RgAll.cons (by { (with_reducible refine RgL.mk (by rfl) ?_); intro v a w' hE hd hf; have ev0 := hf.lit 1 (.int .i64 ((kn : Nat) : Int)) (by kernel_rfl) (by kernel_rfl); clear hd hf; intro K hK; go_simp; exact hK.out _ _ (Ext.refl _) rfl (FreshIf.no rfl) }) ?_
    refine RgAll.cons (by { (with_reducible refine RgL.mk (by rfl) ?_); intro v a w' hE hd hf; have d0 : (IsI 8 za) (v 0) w' := hd 0 (by kernel_rfl); have ev0 := hf.val 0 49 _ rfl (by kernel_rfl) (by kernel_rfl) (by kernel_rfl); have d1 : v 1 = .int .i64 ((kn : Nat) : Int) := hd 1 (by kernel_rfl); have ev1 := hf.val 1 50 _ d1 (by kernel_rfl) (by kernel_rfl) (by kernel_rfl); clear d1; clear hd hf; intro K hK; go_simp; go_at_call 32; go_split_ands; (with_reducible refine Calls.mono (HR2.out _ _ d0) ?_); rintro e w2 ⟨x, rfl, e2, hx⟩; exact hK.out _ _ e2 hx (FreshIf.no rfl) }) ?_
    refine RgAll.cons (by { (with_reducible refine RgL.mk (by rfl) ?_); intro v a w' hE hd hf; have d0 : (IsT2 (IsI 8 (((r : Nat) : Int))) (IsV (.int .i64 0))) (v 2) w' := hd 2 (by kernel_rfl); have ev0 := hf.val 2 51 _ rfl (by kernel_rfl) (by kernel_rfl) (by kernel_rfl); clear hd hf; intro K hK; go_simp; exact hK.out _ _ (Ext.refl _) d0 (FreshIf.no rfl) }) ?_
    refine RgAll.cons (by { (with_reducible refine RgL.mk (by rfl) ?_); intro v a w' hE hd hf; have d0 : (IsT2 (IsI 8 (((r : Nat) : Int))) (IsV (.int .i64 0))) (v 3) w' := hd 3 (by kernel_rfl); obtain ⟨x0, x1, z0, y0, y1⟩ := d0; have ev0 := hf.val 3 48 _ z0 (by kernel_rfl) (by kernel_rfl) (by kernel_rfl); clear z0; clear hd hf; intro K hK; go_simp; exact hK.out _ _ (Ext.refl _) y0 (FreshIf.no rfl) }) ?_
    refine RgAll.cons (by { (with_reducible refine RgL.mk (by rfl) ?_); intro v a w' hE hd hf; have d0 : (IsT2 (IsI 8 (((r : Nat) : Int))) (IsV (.int .i64 0))) (v 3) w' := hd 3 (by kernel_rfl); obtain ⟨x0, x1, z0, y0, y1⟩ := d0; have ev0 := hf.val 3 48 _ z0 (by kernel_rfl) (by kernel_rfl) (by kernel_rfl); clear z0; clear hd hf; intro K hK; go_simp; exact hK.out _ _ (Ext.refl _) y1 (FreshIf.no rfl) }) ?_
    refine RgAll.cons (by { (with_reducible refine RgL.mk (by rfl) ?_); intro v a w' hE hd hf; skip; clear hd hf; intro K hK; go_simp; refine hK.out _ _ ((Ext.refl _).alloc _) ⟨_, rfl, hE.size, Bx.new _ _ _ _ _⟩ FreshIf.yes }) ?_
    exact RgAll.nil
  intro v W12 e1 hΦ _
  replace S := S.mono e1
  obtain ⟨s52, a52, n52, c52, v4, h52⟩ := (hΦ 4 (by decide) : IsI 8 (((r : Nat) : Int)) (v 4) W12)
  have v5 : v 5 = .int .i64 0 := hΦ 5 (by decide)
  obtain ⟨g17, v6, q14, b13⟩ := (hΦ 6 (by decide) : IsB W11 (v 6) W12)
  replace S := S.addN (Apart.old hl.out q14) (Nat.le_trans hw q14) b13
  clear b13
  simp only [layL, Act.put, List.setIfInBounds_toArray, List.set_cons_zero, List.set_cons_succ, Nat.reduceAdd]
  rw [v4, v5, v6]
  clear v4 v5 v6
  clear hΦ
  clear hl hw
  clear e1
  obtain ⟨s8, a8, n8, c8, b8, _⟩ := S.at 0 (g17) (IsI 0 0) rfl; have F1 := b8.c0; have F2 := b8.c1; have F3 := b8.f0; have F4 := b8.f1
  refine wpList_step fun K hK => ?_; go_simp; refine hK _ _ ?_; clear hK K
  clear F1 F2 F3 F4 b8
  obtain ⟨W13, hW, S2, G2, _⟩ := S.put 0 (g17) (IsI 0 0) (IsI 8 (((r : Nat) : Int))) rfl s52 a52 n52 c52 (IsI.gstb _ _) ⟨_, _, _, _, rfl, h52⟩
  rw [← hW]; clear hW S
  have S : St w W13 [(g17, IsI 8 (((r : Nat) : Int))), (g15, IsI 8 (((r : Nat) : Int))), (g13, IsI 8 tz), (g12, IsI 8 sz), (g10, IsI 8 tz), (g9, IsI 8 sz), (g8, IsI 8 za), (w.heap.size, IsR s1 x1)] := S2; clear S2 G2
  clear h52
  refine wpList_step fun K hK => ?_; go_simp; refine hK _ _ ?_; clear hK K
  refine wpList_nil ?_
  go_upto_region 9 with (fail)
  have hl := hid S.lt; have hw := S.ext.size
  refine wp_region_rg 12 [some 54, some 55, some 56, some 57, some 58, some 59, some 60, some 61, some 62, some 63, some 64, some 19] [IsV (.pointer (some ⟨w.heap.size, 0, none⟩)), IsV (.bool s1), IsV (.pointer (some ⟨w.heap.size, 1, none⟩)), IsW x1, IsV (.pointer (some ⟨w.heap.size, 1, none⟩)), IsW x1, IsV (.int .i64 (x1).length), IsV (.int .i64 (m : Nat)), IsW (x1.take m), IsR s1 (((x1.take m))), IsI 2 zb, IsB W13] [11] 1 (by kernel_rfl) (by decide) (by kernel_rfl) (by kernel_rfl) (by kernel_rfl) (by kernel_rfl) (by kernel_rfl) ?_ ?_ ?_ ?_
  · repeat' (first | exact trivial | exact IsV.stb _ | exact IsW.stb _ | exact IsWk.stb _ _ | exact IsI.stb _ _ | exact IsB.stb _ | exact IsR.stb _ _ | exact IsMag.stb _ _ | exact IsPos.stb | apply IsT3.stb | apply IsT2.stb | apply And.intro)
  · intro i hi; simp only [List.mem_cons, List.not_mem_nil, or_false] at hi; subst hi; exact IsB.box _
  · refine RgAll.cons (by { (with_reducible refine RgL.mk (by rfl) ?_); intro v a w' hE hd hf; have ev0 := hf.lit 3 (.pointer (some ⟨w.heap.size, 0, none⟩)) (by kernel_rfl) (by kernel_rfl); clear hd hf; intro K hK; go_simp; exact hK.out _ _ (Ext.refl _) rfl (FreshIf.no rfl) }) ?_
    refine RgAll.cons (by { (with_reducible refine RgL.mk (by rfl) ?_); intro v a w' hE hd hf; have d0 : v 0 = .pointer (some ⟨w.heap.size, 0, none⟩) := hd 0 (by kernel_rfl); have ev0 := hf.val 0 54 _ d0 (by kernel_rfl) (by kernel_rfl) (by kernel_rfl); clear d0; obtain ⟨s8, a8, n8, c8, b8, h8⟩ := (S.mono hE).at 7 (w.heap.size) (IsR s1 x1) rfl; have L0 := b8.c0; have L1 := b8.c1; obtain ⟨a9, n9, c9, k9, h9⟩ := h8; injection k9 with k9; simp only [Array.mk.injEq, List.cons.injEq, Value.bool.injEq, Value.slice.injEq, and_true] at k9; obtain ⟨rfl, rfl, rfl, rfl⟩ := k9; clear hd hf; intro K hK; go_simp; exact hK.out _ _ (Ext.refl _) rfl (FreshIf.no rfl) }) ?_
    refine RgAll.cons (by { (with_reducible refine RgL.mk (by rfl) ?_); intro v a w' hE hd hf; have ev0 := hf.lit 3 (.pointer (some ⟨w.heap.size, 0, none⟩)) (by kernel_rfl) (by kernel_rfl); clear hd hf; intro K hK; go_simp; exact hK.out _ _ (Ext.refl _) rfl (FreshIf.no rfl) }) ?_
    refine RgAll.cons (by { (with_reducible refine RgL.mk (by rfl) ?_); intro v a w' hE hd hf; have d0 : v 2 = .pointer (some ⟨w.heap.size, 1, none⟩) := hd 2 (by kernel_rfl); have ev0 := hf.val 2 56 _ d0 (by kernel_rfl) (by kernel_rfl) (by kernel_rfl); clear d0; obtain ⟨s8, a8, n8, c8, b8, h8⟩ := (S.mono hE).at 7 (w.heap.size) (IsR s1 x1) rfl; have L0 := b8.c0; have L1 := b8.c1; obtain ⟨a9, n9, c9, k9, h9⟩ := h8; injection k9 with k9; simp only [Array.mk.injEq, List.cons.injEq, Value.bool.injEq, Value.slice.injEq, and_true] at k9; obtain ⟨rfl, rfl, rfl, rfl⟩ := k9; clear hd hf; intro K hK; go_simp; exact hK.out _ _ (Ext.refl _) ⟨_, _, _, rfl, h9⟩ (FreshIf.no rfl) }) ?_
    refine RgAll.cons (by { (with_reducible refine RgL.mk (by rfl) ?_); intro v a w' hE hd hf; have ev0 := hf.lit 3 (.pointer (some ⟨w.heap.size, 0, none⟩)) (by kernel_rfl) (by kernel_rfl); clear hd hf; intro K hK; go_simp; exact hK.out _ _ (Ext.refl _) rfl (FreshIf.no rfl) }) ?_
    refine RgAll.cons (by { (with_reducible refine RgL.mk (by rfl) ?_); intro v a w' hE hd hf; have d0 : v 4 = .pointer (some ⟨w.heap.size, 1, none⟩) := hd 4 (by kernel_rfl); have ev0 := hf.val 4 58 _ d0 (by kernel_rfl) (by kernel_rfl) (by kernel_rfl); clear d0; obtain ⟨s8, a8, n8, c8, b8, h8⟩ := (S.mono hE).at 7 (w.heap.size) (IsR s1 x1) rfl; have L0 := b8.c0; have L1 := b8.c1; obtain ⟨a9, n9, c9, k9, h9⟩ := h8; injection k9 with k9; simp only [Array.mk.injEq, List.cons.injEq, Value.bool.injEq, Value.slice.injEq, and_true] at k9; obtain ⟨rfl, rfl, rfl, rfl⟩ := k9; clear hd hf; intro K hK; go_simp; exact hK.out _ _ (Ext.refl _) ⟨_, _, _, rfl, h9⟩ (FreshIf.no rfl) }) ?_
    refine RgAll.cons (by { (with_reducible refine RgL.mk (by rfl) ?_); intro v a w' hE hd hf; have d0 : (IsW x1) (v 5) w' := hd 5 (by kernel_rfl); obtain ⟨a9, n9, c9, z0, h9⟩ := d0; have ev0 := hf.val 5 59 _ z0 (by kernel_rfl) (by kernel_rfl) (by kernel_rfl); clear z0; have l9 := h9.len; subst l9; have t9 := h9.capo; have t8 := h9.big; clear h9; clear hd hf; intro K hK; go_simp; exact hK.out _ _ (Ext.refl _) rfl (FreshIf.no rfl) }) ?_
    refine RgAll.cons (by { (with_reducible refine RgL.mk (by rfl) ?_); intro v a w' hE hd hf; have d0 : v 6 = .int .i64 (x1).length := hd 6 (by kernel_rfl); have ev0 := hf.val 6 60 _ d0 (by kernel_rfl) (by kernel_rfl) (by kernel_rfl); clear d0; have hx9 := HMI.out; clear hd hf; intro K hK; go_simp; exact hK.out _ _ (Ext.refl _) rfl (FreshIf.no rfl) }) ?_
    refine RgAll.cons (by { (with_reducible refine RgL.mk (by rfl) ?_); intro v a w' hE hd hf; have d0 : (IsW x1) (v 3) w' := hd 3 (by kernel_rfl); obtain ⟨a9, n9, c9, z0, h9⟩ := d0; have ev0 := hf.val 3 57 _ z0 (by kernel_rfl) (by kernel_rfl) (by kernel_rfl); clear z0; have d1 : v 7 = .int .i64 (m : Nat) := hd 7 (by kernel_rfl); have ev1 := hf.val 7 61 _ d1 (by kernel_rfl) (by kernel_rfl) (by kernel_rfl); clear d1; have l9 := h9.len; subst l9; have t9 := HML.out; have t8 := h9.capo; have t7 := h9.big; have t6 := Nat.le_trans t9 t8; have h9 := hid h9; clear hd hf; intro K hK; go_simp; exact hK.out _ _ (Ext.refl _) ⟨_, _, _, rfl, h9.out.take _ (HML.out)⟩ (FreshIf.no rfl) }) ?_
    refine RgAll.cons (by { (with_reducible refine RgL.mk (by rfl) ?_); intro v a w' hE hd hf; have d0 : v 1 = .bool s1 := hd 1 (by kernel_rfl); have ev0 := hf.val 1 55 _ d0 (by kernel_rfl) (by kernel_rfl) (by kernel_rfl); clear d0; have d1 : (IsW (x1.take m)) (v 8) w' := hd 8 (by kernel_rfl); obtain ⟨a9, n9, c9, z0, h9⟩ := d1; have ev1 := hf.val 8 62 _ z0 (by kernel_rfl) (by kernel_rfl) (by kernel_rfl); clear z0; clear hd hf; intro K hK; go_simp; exact hK.out _ _ (Ext.refl _) ⟨_, _, _, rfl, h9⟩ (FreshIf.no rfl) }) ?_
    refine RgAll.cons (by { (with_reducible refine RgL.mk (by rfl) ?_); intro v a w' hE hd hf; have d0 : (IsR s1 (((x1.take m)))) (v 9) w' := hd 9 (by kernel_rfl); have ev0 := hf.val 9 63 _ rfl (by kernel_rfl) (by kernel_rfl) (by kernel_rfl); clear hd hf; intro K hK; go_simp; go_at_call 6; go_split_ands; (with_reducible refine Calls.mono (Calls.mono (Made_f d0 (by decide)) fun _ _ h => h.eqz Hb.out) ?_); rintro e w2 ⟨x, rfl, e2, hx⟩; exact hK.out _ _ e2 hx (FreshIf.no rfl) }) ?_
    refine RgAll.cons (by { (with_reducible refine RgL.mk (by rfl) ?_); intro v a w' hE hd hf; skip; clear hd hf; intro K hK; go_simp; refine hK.out _ _ ((Ext.refl _).alloc _) ⟨_, rfl, hE.size, Bx.new _ _ _ _ _⟩ FreshIf.yes }) ?_
    exact RgAll.nil
  intro v W14 e1 hΦ _
  replace S := S.mono e1
  obtain ⟨s64, a64, n64, c64, v10, h64⟩ := (hΦ 10 (by decide) : IsI 2 zb (v 10) W14)
  obtain ⟨g19, v11, q16, b15⟩ := (hΦ 11 (by decide) : IsB W13 (v 11) W14)
  replace S := S.addN (Apart.old hl.out q16) (Nat.le_trans hw q16) b15
  clear b15
  simp only [layL, Act.put, List.setIfInBounds_toArray, List.set_cons_zero, List.set_cons_succ, Nat.reduceAdd]
  rw [v10, v11]
  clear v10 v11
  clear hΦ
  clear hl hw
  clear e1
  obtain ⟨s8, a8, n8, c8, b8, _⟩ := S.at 0 (g19) (IsI 0 0) rfl; have F1 := b8.c0; have F2 := b8.c1; have F3 := b8.f0; have F4 := b8.f1
  refine wpAny_ready (rs := [12]) (by kernel_rfl) (by simp) (AllReady.cons rfl (fun K hK => ?_) AllReady.nil); go_simp; refine hK _ _ ?_; clear hK K
  clear F1 F2 F3 F4 b8
  obtain ⟨W15, hW, S2, G2, _⟩ := S.put 0 (g19) (IsI 0 0) (IsI 2 zb) rfl s64 a64 n64 c64 (IsI.gstb _ _) ⟨_, _, _, _, rfl, h64⟩
  rw [← hW]; clear hW S
  have S : St w W15 [(g19, IsI 2 zb), (g17, IsI 8 (((r : Nat) : Int))), (g15, IsI 8 (((r : Nat) : Int))), (g13, IsI 8 tz), (g12, IsI 8 sz), (g10, IsI 8 tz), (g9, IsI 8 sz), (g8, IsI 8 za), (w.heap.size, IsR s1 x1)] := S2; clear S2 G2
  clear h64
  refine wpAny_done (by kernel_rfl) ?_ _
  go_upto_region 10 with (fail)
  have hl := hid S.lt; have hw := S.ext.size
  refine wp_region_rgs 7 [some 66, some 67, some 68, some 65, some 69, some 70, some 20] [IsI 2 zb, IsV (.int .i64 nn), IsT2 (IsI 128 cz) (IsV (.int .i64 i)), IsT2 (IsI 128 cz) (IsV (.int .i64 i)), IsI 128 cz, IsV (.int .i64 i), IsB W15] [6] (by decide) (by kernel_rfl) (by kernel_rfl) (by kernel_rfl) ?_ ?_ ?_ ?_
  · repeat' (first | exact trivial | exact IsV.stb _ | exact IsW.stb _ | exact IsWk.stb _ _ | exact IsI.stb _ _ | exact IsB.stb _ | exact IsR.stb _ _ | exact IsMag.stb _ _ | exact IsPos.stb | apply IsT3.stb | apply IsT2.stb | apply And.intro)
  · intro i hi; simp only [List.mem_cons, List.not_mem_nil, or_false] at hi; subst hi; exact IsB.box _
  · refine RgAll.cons (by { (with_reducible refine RgL.mk (by rfl) ?_); intro v a w' hE hd hf; have ev0 := hf.lit 19 (.pointer (some ⟨g19, 0, none⟩)) (by kernel_rfl) (by kernel_rfl); obtain ⟨s8, a8, n8, c8, b8, h8⟩ := (S.mono hE).at 0 (g19) (IsI 2 zb) rfl; have L0 := b8.c0; have L1 := b8.c1; clear hd hf; intro K hK; go_simp; exact hK.out _ _ (Ext.refl _) h8 (FreshIf.no rfl) }) ?_
    refine RgAll.cons (by { (with_reducible refine RgL.mk (by rfl) ?_); intro v a w' hE hd hf; have ev0 := hf.lit 2 (.int .i64 nn) (by kernel_rfl) (by kernel_rfl); clear hd hf; intro K hK; go_simp; exact hK.out _ _ (Ext.refl _) rfl (FreshIf.no rfl) }) ?_
    refine RgAll.cons (by { (with_reducible refine RgL.mk (by rfl) ?_); intro v a w' hE hd hf; have d0 : (IsI 2 zb) (v 0) w' := hd 0 (by kernel_rfl); have ev0 := hf.val 0 66 _ rfl (by kernel_rfl) (by kernel_rfl) (by kernel_rfl); have d1 : v 1 = .int .i64 nn := hd 1 (by kernel_rfl); have ev1 := hf.val 1 67 _ d1 (by kernel_rfl) (by kernel_rfl) (by kernel_rfl); clear d1; clear hd hf; intro K hK; go_simp; go_at_call 33; go_split_ands; (with_reducible refine Calls.mono (HP.out _ _ d0) ?_); rintro e w2 ⟨x, rfl, e2, hx⟩; exact hK.out _ _ e2 hx (FreshIf.no rfl) }) ?_
    refine RgAll.cons (by { (with_reducible refine RgL.mk (by rfl) ?_); intro v a w' hE hd hf; have d0 : (IsT2 (IsI 128 cz) (IsV (.int .i64 i))) (v 2) w' := hd 2 (by kernel_rfl); have ev0 := hf.val 2 68 _ rfl (by kernel_rfl) (by kernel_rfl) (by kernel_rfl); clear hd hf; intro K hK; go_simp; exact hK.out _ _ (Ext.refl _) d0 (FreshIf.no rfl) }) ?_
    refine RgAll.cons (by { (with_reducible refine RgL.mk (by rfl) ?_); intro v a w' hE hd hf; have d0 : (IsT2 (IsI 128 cz) (IsV (.int .i64 i))) (v 3) w' := hd 3 (by kernel_rfl); obtain ⟨x0, x1, z0, y0, y1⟩ := d0; have ev0 := hf.val 3 65 _ z0 (by kernel_rfl) (by kernel_rfl) (by kernel_rfl); clear z0; clear hd hf; intro K hK; go_simp; exact hK.out _ _ (Ext.refl _) y0 (FreshIf.no rfl) }) ?_
    refine RgAll.cons (by { (with_reducible refine RgL.mk (by rfl) ?_); intro v a w' hE hd hf; have d0 : (IsT2 (IsI 128 cz) (IsV (.int .i64 i))) (v 3) w' := hd 3 (by kernel_rfl); obtain ⟨x0, x1, z0, y0, y1⟩ := d0; have ev0 := hf.val 3 65 _ z0 (by kernel_rfl) (by kernel_rfl) (by kernel_rfl); clear z0; clear hd hf; intro K hK; go_simp; exact hK.out _ _ (Ext.refl _) y1 (FreshIf.no rfl) }) ?_
    refine RgAll.cons (by { (with_reducible refine RgL.mk (by rfl) ?_); intro v a w' hE hd hf; skip; clear hd hf; intro K hK; go_simp; refine hK.out _ _ ((Ext.refl _).alloc _) ⟨_, rfl, hE.size, Bx.new _ _ _ _ _⟩ FreshIf.yes }) ?_
    exact RgAll.nil
  intro v W16 e1 hΦ _
  replace S := S.mono e1
  obtain ⟨s69, a69, n69, c69, v4, h69⟩ := (hΦ 4 (by decide) : IsI 128 cz (v 4) W16)
  have v5 : v 5 = .int .i64 i := hΦ 5 (by decide)
  obtain ⟨g20, v6, q18, b17⟩ := (hΦ 6 (by decide) : IsB W15 (v 6) W16)
  replace S := S.addN (Apart.old hl.out q18) (Nat.le_trans hw q18) b17
  clear b17
  simp only [layL, Act.put, List.setIfInBounds_toArray, List.set_cons_zero, List.set_cons_succ, Nat.reduceAdd]
  rw [v4, v5, v6]
  clear v4 v5 v6
  clear hΦ
  clear hl hw
  clear e1
  obtain ⟨s8, a8, n8, c8, b8, _⟩ := S.at 0 (g20) (IsI 0 0) rfl; have F1 := b8.c0; have F2 := b8.c1; have F3 := b8.f0; have F4 := b8.f1
  refine wpList_step fun K hK => ?_; go_simp; refine hK _ _ ?_; clear hK K
  clear F1 F2 F3 F4 b8
  obtain ⟨W17, hW, S2, G2, _⟩ := S.put 0 (g20) (IsI 0 0) (IsI 128 cz) rfl s69 a69 n69 c69 (IsI.gstb _ _) ⟨_, _, _, _, rfl, h69⟩
  rw [← hW]; clear hW S
  have S : St w W17 [(g20, IsI 128 cz), (g19, IsI 2 zb), (g17, IsI 8 (((r : Nat) : Int))), (g15, IsI 8 (((r : Nat) : Int))), (g13, IsI 8 tz), (g12, IsI 8 sz), (g10, IsI 8 tz), (g9, IsI 8 sz), (g8, IsI 8 za), (w.heap.size, IsR s1 x1)] := S2; clear S2 G2
  clear h69
  refine wpList_step fun K hK => ?_; go_simp; refine hK _ _ ?_; clear hK K
  refine wpList_nil ?_
  go_upto_region 11 with (fail)
  have hl := hid S.lt; have hw := S.ext.size
  refine wp_region_rgs 7 [some 72, some 73, some 74, some 71, some 75, some 76, some 22] [IsI 2 zb, IsV (.int .i64 nn), IsT2 (IsI 128 cz) (IsV (.int .i64 i)), IsT2 (IsI 128 cz) (IsV (.int .i64 i)), IsI 128 cz, IsV (.int .i64 i), IsB W17] [6] (by decide) (by kernel_rfl) (by kernel_rfl) (by kernel_rfl) ?_ ?_ ?_ ?_
  · repeat' (first | exact trivial | exact IsV.stb _ | exact IsW.stb _ | exact IsWk.stb _ _ | exact IsI.stb _ _ | exact IsB.stb _ | exact IsR.stb _ _ | exact IsMag.stb _ _ | exact IsPos.stb | apply IsT3.stb | apply IsT2.stb | apply And.intro)
  · intro i hi; simp only [List.mem_cons, List.not_mem_nil, or_false] at hi; subst hi; exact IsB.box _
  · refine RgAll.cons (by { (with_reducible refine RgL.mk (by rfl) ?_); intro v a w' hE hd hf; have ev0 := hf.lit 19 (.pointer (some ⟨g19, 0, none⟩)) (by kernel_rfl) (by kernel_rfl); obtain ⟨s8, a8, n8, c8, b8, h8⟩ := (S.mono hE).at 1 (g19) (IsI 2 zb) rfl; have L0 := b8.c0; have L1 := b8.c1; clear hd hf; intro K hK; go_simp; exact hK.out _ _ (Ext.refl _) h8 (FreshIf.no rfl) }) ?_
    refine RgAll.cons (by { (with_reducible refine RgL.mk (by rfl) ?_); intro v a w' hE hd hf; have ev0 := hf.lit 2 (.int .i64 nn) (by kernel_rfl) (by kernel_rfl); clear hd hf; intro K hK; go_simp; exact hK.out _ _ (Ext.refl _) rfl (FreshIf.no rfl) }) ?_
    refine RgAll.cons (by { (with_reducible refine RgL.mk (by rfl) ?_); intro v a w' hE hd hf; have d0 : (IsI 2 zb) (v 0) w' := hd 0 (by kernel_rfl); have ev0 := hf.val 0 72 _ rfl (by kernel_rfl) (by kernel_rfl) (by kernel_rfl); have d1 : v 1 = .int .i64 nn := hd 1 (by kernel_rfl); have ev1 := hf.val 1 73 _ d1 (by kernel_rfl) (by kernel_rfl) (by kernel_rfl); clear d1; clear hd hf; intro K hK; go_simp; go_at_call 34; go_split_ands; (with_reducible refine Calls.mono (HP2.out _ _ d0) ?_); rintro e w2 ⟨x, rfl, e2, hx⟩; exact hK.out _ _ e2 hx (FreshIf.no rfl) }) ?_
    refine RgAll.cons (by { (with_reducible refine RgL.mk (by rfl) ?_); intro v a w' hE hd hf; have d0 : (IsT2 (IsI 128 cz) (IsV (.int .i64 i))) (v 2) w' := hd 2 (by kernel_rfl); have ev0 := hf.val 2 74 _ rfl (by kernel_rfl) (by kernel_rfl) (by kernel_rfl); clear hd hf; intro K hK; go_simp; exact hK.out _ _ (Ext.refl _) d0 (FreshIf.no rfl) }) ?_
    refine RgAll.cons (by { (with_reducible refine RgL.mk (by rfl) ?_); intro v a w' hE hd hf; have d0 : (IsT2 (IsI 128 cz) (IsV (.int .i64 i))) (v 3) w' := hd 3 (by kernel_rfl); obtain ⟨x0, x1, z0, y0, y1⟩ := d0; have ev0 := hf.val 3 71 _ z0 (by kernel_rfl) (by kernel_rfl) (by kernel_rfl); clear z0; clear hd hf; intro K hK; go_simp; exact hK.out _ _ (Ext.refl _) y0 (FreshIf.no rfl) }) ?_
    refine RgAll.cons (by { (with_reducible refine RgL.mk (by rfl) ?_); intro v a w' hE hd hf; have d0 : (IsT2 (IsI 128 cz) (IsV (.int .i64 i))) (v 3) w' := hd 3 (by kernel_rfl); obtain ⟨x0, x1, z0, y0, y1⟩ := d0; have ev0 := hf.val 3 71 _ z0 (by kernel_rfl) (by kernel_rfl) (by kernel_rfl); clear z0; clear hd hf; intro K hK; go_simp; exact hK.out _ _ (Ext.refl _) y1 (FreshIf.no rfl) }) ?_
    refine RgAll.cons (by { (with_reducible refine RgL.mk (by rfl) ?_); intro v a w' hE hd hf; skip; clear hd hf; intro K hK; go_simp; refine hK.out _ _ ((Ext.refl _).alloc _) ⟨_, rfl, hE.size, Bx.new _ _ _ _ _⟩ FreshIf.yes }) ?_
    exact RgAll.nil
  intro v W18 e1 hΦ _
  replace S := S.mono e1
  obtain ⟨s75, a75, n75, c75, v4, h75⟩ := (hΦ 4 (by decide) : IsI 128 cz (v 4) W18)
  have v5 : v 5 = .int .i64 i := hΦ 5 (by decide)
  obtain ⟨g22, v6, q20, b19⟩ := (hΦ 6 (by decide) : IsB W17 (v 6) W18)
  replace S := S.addN (Apart.old hl.out q20) (Nat.le_trans hw q20) b19
  clear b19
  simp only [layL, Act.put, List.setIfInBounds_toArray, List.set_cons_zero, List.set_cons_succ, Nat.reduceAdd]
  rw [v4, v5, v6]
  clear v4 v5 v6
  clear hΦ
  clear hl hw
  clear e1
  obtain ⟨s8, a8, n8, c8, b8, _⟩ := S.at 0 (g22) (IsI 0 0) rfl; have F1 := b8.c0; have F2 := b8.c1; have F3 := b8.f0; have F4 := b8.f1
  refine wpList_step fun K hK => ?_; go_simp; refine hK _ _ ?_; clear hK K
  clear F1 F2 F3 F4 b8
  obtain ⟨W19, hW, S2, G2, _⟩ := S.put 0 (g22) (IsI 0 0) (IsI 128 cz) rfl s75 a75 n75 c75 (IsI.gstb _ _) ⟨_, _, _, _, rfl, h75⟩
  rw [← hW]; clear hW S
  have S : St w W19 [(g22, IsI 128 cz), (g20, IsI 128 cz), (g19, IsI 2 zb), (g17, IsI 8 (((r : Nat) : Int))), (g15, IsI 8 (((r : Nat) : Int))), (g13, IsI 8 tz), (g12, IsI 8 sz), (g10, IsI 8 tz), (g9, IsI 8 sz), (g8, IsI 8 za), (w.heap.size, IsR s1 x1)] := S2; clear S2 G2
  clear h75
  refine wpList_step fun K hK => ?_; go_simp; refine hK _ _ ?_; clear hK K
  refine wpList_nil ?_
  go_upto_region 12 with (fail)
  refine wp_region_rgs 37 [some 77, some 78, some 79, some 80, some 81, some 82, some 83, some 84, some 85, some 86, some 87, some 88, some 89, some 90, some 91, some 92, some 93, some 94, some 95, some 96, some 97, some 98, some 99, some 100, some 101, some 102, some 103, some 104, some 105, some 106, some 107, some 108, some 109, some 110, some 111, some 112, some 113] [IsV (.int .i64 e), IsV (.int .i64 e), IsV (.bool false), IsV (.bool false), IsV (.int .i64 0), IsV (.int .i64 0), IsV (.bool false), IsV (.bool false), IsV (.bool false), IsV (.int .i64 i), IsV (.int .i64 i), IsV (.bool false), IsV (.bool false), IsV (.bool false), IsI 8 sz, IsI 8 sz, IsV (.bool true), IsV (.bool false), IsV (.bool false), IsV (.bool false), IsI 8 tz, IsI 8 tz, IsV (.bool true), IsV (.bool false), IsV (.bool false), IsV (.bool false), IsI 8 (((r : Nat) : Int)), IsI 8 (((r : Nat) : Int)), IsV (.bool true), IsV (.bool false), IsV (.bool false), IsV (.bool false), IsI 128 cz, IsI 128 cz, IsV (.bool true), IsV (.bool false), IsV (.bool false)] [] (by decide) (by kernel_rfl) (by kernel_rfl) (by kernel_rfl) ?_ ?_ ?_ ?_
  · repeat' (first | exact trivial | exact IsV.stb _ | exact IsW.stb _ | exact IsWk.stb _ _ | exact IsI.stb _ _ | exact IsB.stb _ | exact IsR.stb _ _ | exact IsMag.stb _ _ | exact IsPos.stb | apply IsT3.stb | apply IsT2.stb | apply And.intro)
  · exact (fun _ h => by cases h)
  · refine RgAll.cons (by { (with_reducible refine RgL.mk (by rfl) ?_); intro v a w' hE hd hf; have ev0 := hf.lit 11 (.int .i64 e) (by kernel_rfl) (by kernel_rfl); clear hd hf; intro K hK; go_simp; exact hK.out _ _ (Ext.refl _) rfl (FreshIf.no rfl) }) ?_
    refine RgAll.cons (by { (with_reducible refine RgL.mk (by rfl) ?_); intro v a w' hE hd hf; have ev0 := hf.lit 14 (.int .i64 e) (by kernel_rfl) (by kernel_rfl); clear hd hf; intro K hK; go_simp; exact hK.out _ _ (Ext.refl _) rfl (FreshIf.no rfl) }) ?_
    refine RgAll.cons (by { (with_reducible refine RgL.mk (by rfl) ?_); intro v a w' hE hd hf; have d0 : v 0 = .int .i64 e := hd 0 (by kernel_rfl); have ev0 := hf.val 0 77 _ d0 (by kernel_rfl) (by kernel_rfl) (by kernel_rfl); clear d0; have d1 : v 1 = .int .i64 e := hd 1 (by kernel_rfl); have ev1 := hf.val 1 78 _ d1 (by kernel_rfl) (by kernel_rfl) (by kernel_rfl); clear d1; clear hd hf; intro K hK; go_simp; exact hK.out _ _ (Ext.refl _) rfl (FreshIf.no rfl) }) ?_
    refine RgAll.cons (by { (with_reducible refine RgL.mk (by rfl) ?_); intro v a w' hE hd hf; have d0 : v 2 = .bool false := hd 2 (by kernel_rfl); have ev0 := hf.val 2 79 _ d0 (by kernel_rfl) (by kernel_rfl) (by kernel_rfl); clear d0; clear hd hf; intro K hK; go_simp; exact hK.out _ _ (Ext.refl _) rfl (FreshIf.no rfl) }) ?_
    refine RgAll.cons (by { (with_reducible refine RgL.mkG 3 80 false (by rfl) (by kernel_rfl) (by kernel_rfl) (by kernel_rfl) (by kernel_rfl) (by kernel_rfl) ?_ ?_); (focus (intro _ _ h; exact h)); intro v a w' hE hd hf; have ev0 := hf.lit 16 (.int .i64 0) (by kernel_rfl) (by kernel_rfl); clear hd hf; intro K hK; go_simp; exact hK.out _ _ (Ext.refl _) rfl (FreshIf.no rfl) }) ?_
    refine RgAll.cons (by { (with_reducible refine RgL.mkG 3 80 false (by rfl) (by kernel_rfl) (by kernel_rfl) (by kernel_rfl) (by kernel_rfl) (by kernel_rfl) ?_ ?_); (focus (intro _ _ h; exact h)); intro v a w' hE hd hf; have ev0 := hf.lit 18 (.int .i64 0) (by kernel_rfl) (by kernel_rfl); clear hd hf; intro K hK; go_simp; exact hK.out _ _ (Ext.refl _) rfl (FreshIf.no rfl) }) ?_
    refine RgAll.cons (by { (with_reducible refine RgL.mkG 3 80 false (by rfl) (by kernel_rfl) (by kernel_rfl) (by kernel_rfl) (by kernel_rfl) (by kernel_rfl) ?_ ?_); (focus (intro _ _ h; exact h)); intro v a w' hE hd hf; have d0 : v 4 = .int .i64 0 := hd 4 (by kernel_rfl); have ev0 := hf.val 4 81 _ d0 (by kernel_rfl) (by kernel_rfl) (by kernel_rfl); clear d0; have d1 : v 5 = .int .i64 0 := hd 5 (by kernel_rfl); have ev1 := hf.val 5 82 _ d1 (by kernel_rfl) (by kernel_rfl) (by kernel_rfl); clear d1; clear hd hf; intro K hK; go_simp; exact hK.out _ _ (Ext.refl _) rfl (FreshIf.no rfl) }) ?_
    refine RgAll.cons (by { (with_reducible refine RgL.mk (by rfl) ?_); intro v a w' hE hd hf; have d0 : v 3 = .bool false := hd 3 (by kernel_rfl); have ev0 := hf.val 3 80 _ d0 (by kernel_rfl) (by kernel_rfl) (by kernel_rfl); clear d0; have d1 : v 6 = .bool false := hd 6 (by kernel_rfl); have ev1 := hf.val 6 83 _ d1 (by kernel_rfl) (by kernel_rfl) (by kernel_rfl); clear d1; clear hd hf; intro K hK; go_simp; exact hK.out _ _ (Ext.refl _) rfl (FreshIf.no rfl) }) ?_
    refine RgAll.cons (by { (with_reducible refine RgL.mk (by rfl) ?_); intro v a w' hE hd hf; have d0 : v 7 = .bool false := hd 7 (by kernel_rfl); have ev0 := hf.val 7 84 _ d0 (by kernel_rfl) (by kernel_rfl) (by kernel_rfl); clear d0; clear hd hf; intro K hK; go_simp; exact hK.out _ _ (Ext.refl _) rfl (FreshIf.no rfl) }) ?_
    refine RgAll.cons (by { (with_reducible refine RgL.mkG 8 85 false (by rfl) (by kernel_rfl) (by kernel_rfl) (by kernel_rfl) (by kernel_rfl) (by kernel_rfl) ?_ ?_); (focus (intro _ _ h; exact h)); intro v a w' hE hd hf; have ev0 := hf.lit 21 (.int .i64 i) (by kernel_rfl) (by kernel_rfl); clear hd hf; intro K hK; go_simp; exact hK.out _ _ (Ext.refl _) rfl (FreshIf.no rfl) }) ?_
    refine RgAll.cons (by { (with_reducible refine RgL.mkG 8 85 false (by rfl) (by kernel_rfl) (by kernel_rfl) (by kernel_rfl) (by kernel_rfl) (by kernel_rfl) ?_ ?_); (focus (intro _ _ h; exact h)); intro v a w' hE hd hf; have ev0 := hf.lit 23 (.int .i64 i) (by kernel_rfl) (by kernel_rfl); clear hd hf; intro K hK; go_simp; exact hK.out _ _ (Ext.refl _) rfl (FreshIf.no rfl) }) ?_
    refine RgAll.cons (by { (with_reducible refine RgL.mkG 8 85 false (by rfl) (by kernel_rfl) (by kernel_rfl) (by kernel_rfl) (by kernel_rfl) (by kernel_rfl) ?_ ?_); (focus (intro _ _ h; exact h)); intro v a w' hE hd hf; have d0 : v 9 = .int .i64 i := hd 9 (by kernel_rfl); have ev0 := hf.val 9 86 _ d0 (by kernel_rfl) (by kernel_rfl) (by kernel_rfl); clear d0; have d1 : v 10 = .int .i64 i := hd 10 (by kernel_rfl); have ev1 := hf.val 10 87 _ d1 (by kernel_rfl) (by kernel_rfl) (by kernel_rfl); clear d1; clear hd hf; intro K hK; go_simp; exact hK.out _ _ (Ext.refl _) rfl (FreshIf.no rfl) }) ?_
    refine RgAll.cons (by { (with_reducible refine RgL.mk (by rfl) ?_); intro v a w' hE hd hf; have d0 : v 8 = .bool false := hd 8 (by kernel_rfl); have ev0 := hf.val 8 85 _ d0 (by kernel_rfl) (by kernel_rfl) (by kernel_rfl); clear d0; have d1 : v 11 = .bool false := hd 11 (by kernel_rfl); have ev1 := hf.val 11 88 _ d1 (by kernel_rfl) (by kernel_rfl) (by kernel_rfl); clear d1; clear hd hf; intro K hK; go_simp; exact hK.out _ _ (Ext.refl _) rfl (FreshIf.no rfl) }) ?_
    refine RgAll.cons (by { (with_reducible refine RgL.mk (by rfl) ?_); intro v a w' hE hd hf; have d0 : v 12 = .bool false := hd 12 (by kernel_rfl); have ev0 := hf.val 12 89 _ d0 (by kernel_rfl) (by kernel_rfl) (by kernel_rfl); clear d0; clear hd hf; intro K hK; go_simp; exact hK.out _ _ (Ext.refl _) rfl (FreshIf.no rfl) }) ?_
    refine RgAll.cons (by { (with_reducible refine RgL.mkG 13 90 false (by rfl) (by kernel_rfl) (by kernel_rfl) (by kernel_rfl) (by kernel_rfl) (by kernel_rfl) ?_ ?_); (focus (intro _ _ h; exact h)); intro v a w' hE hd hf; have ev0 := hf.lit 9 (.pointer (some ⟨g9, 0, none⟩)) (by kernel_rfl) (by kernel_rfl); obtain ⟨s8, a8, n8, c8, b8, h8⟩ := (S.mono hE).at 8 (g9) (IsI 8 sz) rfl; have L0 := b8.c0; have L1 := b8.c1; clear hd hf; intro K hK; go_simp; exact hK.out _ _ (Ext.refl _) h8 (FreshIf.no rfl) }) ?_
    refine RgAll.cons (by { (with_reducible refine RgL.mkG 13 90 false (by rfl) (by kernel_rfl) (by kernel_rfl) (by kernel_rfl) (by kernel_rfl) (by kernel_rfl) ?_ ?_); (focus (intro _ _ h; exact h)); intro v a w' hE hd hf; have ev0 := hf.lit 12 (.pointer (some ⟨g12, 0, none⟩)) (by kernel_rfl) (by kernel_rfl); obtain ⟨s8, a8, n8, c8, b8, h8⟩ := (S.mono hE).at 6 (g12) (IsI 8 sz) rfl; have L0 := b8.c0; have L1 := b8.c1; clear hd hf; intro K hK; go_simp; exact hK.out _ _ (Ext.refl _) h8 (FreshIf.no rfl) }) ?_
    refine RgAll.cons (by { (with_reducible refine RgL.mkG 13 90 false (by rfl) (by kernel_rfl) (by kernel_rfl) (by kernel_rfl) (by kernel_rfl) (by kernel_rfl) ?_ ?_); (focus (intro _ _ h; exact h)); intro v a w' hE hd hf; have d0 : (IsI 8 sz) (v 14) w' := hd 14 (by kernel_rfl); have ev0 := hf.val 14 91 _ rfl (by kernel_rfl) (by kernel_rfl) (by kernel_rfl); have d1 : (IsI 8 sz) (v 15) w' := hd 15 (by kernel_rfl); have ev1 := hf.val 15 92 _ rfl (by kernel_rfl) (by kernel_rfl) (by kernel_rfl); clear hd hf; intro K hK; go_simp; go_at_call 11; go_split_ands; (with_reducible refine Calls.mono (Same_t d0 d1 (rfl) (by decide)) ?_); rintro e w2 ⟨x, rfl, e2, hx⟩; exact hK.out _ _ e2 hx (FreshIf.no rfl) }) ?_
    refine RgAll.cons (by { (with_reducible refine RgL.mkG 13 90 false (by rfl) (by kernel_rfl) (by kernel_rfl) (by kernel_rfl) (by kernel_rfl) (by kernel_rfl) ?_ ?_); (focus (intro _ _ h; exact h)); intro v a w' hE hd hf; have d0 : v 16 = .bool true := hd 16 (by kernel_rfl); have ev0 := hf.val 16 93 _ d0 (by kernel_rfl) (by kernel_rfl) (by kernel_rfl); clear d0; clear hd hf; intro K hK; go_simp; exact hK.out _ _ (Ext.refl _) rfl (FreshIf.no rfl) }) ?_
    refine RgAll.cons (by { (with_reducible refine RgL.mk (by rfl) ?_); intro v a w' hE hd hf; have d0 : v 13 = .bool false := hd 13 (by kernel_rfl); have ev0 := hf.val 13 90 _ d0 (by kernel_rfl) (by kernel_rfl) (by kernel_rfl); clear d0; have d1 : v 17 = .bool false := hd 17 (by kernel_rfl); have ev1 := hf.val 17 94 _ d1 (by kernel_rfl) (by kernel_rfl) (by kernel_rfl); clear d1; clear hd hf; intro K hK; go_simp; exact hK.out _ _ (Ext.refl _) rfl (FreshIf.no rfl) }) ?_
    refine RgAll.cons (by { (with_reducible refine RgL.mk (by rfl) ?_); intro v a w' hE hd hf; have d0 : v 18 = .bool false := hd 18 (by kernel_rfl); have ev0 := hf.val 18 95 _ d0 (by kernel_rfl) (by kernel_rfl) (by kernel_rfl); clear d0; clear hd hf; intro K hK; go_simp; exact hK.out _ _ (Ext.refl _) rfl (FreshIf.no rfl) }) ?_
    refine RgAll.cons (by { (with_reducible refine RgL.mkG 19 96 false (by rfl) (by kernel_rfl) (by kernel_rfl) (by kernel_rfl) (by kernel_rfl) (by kernel_rfl) ?_ ?_); (focus (intro _ _ h; exact h)); intro v a w' hE hd hf; have ev0 := hf.lit 10 (.pointer (some ⟨g10, 0, none⟩)) (by kernel_rfl) (by kernel_rfl); obtain ⟨s8, a8, n8, c8, b8, h8⟩ := (S.mono hE).at 7 (g10) (IsI 8 tz) rfl; have L0 := b8.c0; have L1 := b8.c1; clear hd hf; intro K hK; go_simp; exact hK.out _ _ (Ext.refl _) h8 (FreshIf.no rfl) }) ?_
    refine RgAll.cons (by { (with_reducible refine RgL.mkG 19 96 false (by rfl) (by kernel_rfl) (by kernel_rfl) (by kernel_rfl) (by kernel_rfl) (by kernel_rfl) ?_ ?_); (focus (intro _ _ h; exact h)); intro v a w' hE hd hf; have ev0 := hf.lit 13 (.pointer (some ⟨g13, 0, none⟩)) (by kernel_rfl) (by kernel_rfl); obtain ⟨s8, a8, n8, c8, b8, h8⟩ := (S.mono hE).at 5 (g13) (IsI 8 tz) rfl; have L0 := b8.c0; have L1 := b8.c1; clear hd hf; intro K hK; go_simp; exact hK.out _ _ (Ext.refl _) h8 (FreshIf.no rfl) }) ?_
    refine RgAll.cons (by { (with_reducible refine RgL.mkG 19 96 false (by rfl) (by kernel_rfl) (by kernel_rfl) (by kernel_rfl) (by kernel_rfl) (by kernel_rfl) ?_ ?_); (focus (intro _ _ h; exact h)); intro v a w' hE hd hf; have d0 : (IsI 8 tz) (v 20) w' := hd 20 (by kernel_rfl); have ev0 := hf.val 20 97 _ rfl (by kernel_rfl) (by kernel_rfl) (by kernel_rfl); have d1 : (IsI 8 tz) (v 21) w' := hd 21 (by kernel_rfl); have ev1 := hf.val 21 98 _ rfl (by kernel_rfl) (by kernel_rfl) (by kernel_rfl); clear hd hf; intro K hK; go_simp; go_at_call 11; go_split_ands; (with_reducible refine Calls.mono (Same_t d0 d1 (rfl) (by decide)) ?_); rintro e w2 ⟨x, rfl, e2, hx⟩; exact hK.out _ _ e2 hx (FreshIf.no rfl) }) ?_
    refine RgAll.cons (by { (with_reducible refine RgL.mkG 19 96 false (by rfl) (by kernel_rfl) (by kernel_rfl) (by kernel_rfl) (by kernel_rfl) (by kernel_rfl) ?_ ?_); (focus (intro _ _ h; exact h)); intro v a w' hE hd hf; have d0 : v 22 = .bool true := hd 22 (by kernel_rfl); have ev0 := hf.val 22 99 _ d0 (by kernel_rfl) (by kernel_rfl) (by kernel_rfl); clear d0; clear hd hf; intro K hK; go_simp; exact hK.out _ _ (Ext.refl _) rfl (FreshIf.no rfl) }) ?_
    refine RgAll.cons (by { (with_reducible refine RgL.mk (by rfl) ?_); intro v a w' hE hd hf; have d0 : v 19 = .bool false := hd 19 (by kernel_rfl); have ev0 := hf.val 19 96 _ d0 (by kernel_rfl) (by kernel_rfl) (by kernel_rfl); clear d0; have d1 : v 23 = .bool false := hd 23 (by kernel_rfl); have ev1 := hf.val 23 100 _ d1 (by kernel_rfl) (by kernel_rfl) (by kernel_rfl); clear d1; clear hd hf; intro K hK; go_simp; exact hK.out _ _ (Ext.refl _) rfl (FreshIf.no rfl) }) ?_
    refine RgAll.cons (by { (with_reducible refine RgL.mk (by rfl) ?_); intro v a w' hE hd hf; have d0 : v 24 = .bool false := hd 24 (by kernel_rfl); have ev0 := hf.val 24 101 _ d0 (by kernel_rfl) (by kernel_rfl) (by kernel_rfl); clear d0; clear hd hf; intro K hK; go_simp; exact hK.out _ _ (Ext.refl _) rfl (FreshIf.no rfl) }) ?_
    refine RgAll.cons (by { (with_reducible refine RgL.mkG 25 102 false (by rfl) (by kernel_rfl) (by kernel_rfl) (by kernel_rfl) (by kernel_rfl) (by kernel_rfl) ?_ ?_); (focus (intro _ _ h; exact h)); intro v a w' hE hd hf; have ev0 := hf.lit 15 (.pointer (some ⟨g15, 0, none⟩)) (by kernel_rfl) (by kernel_rfl); obtain ⟨s8, a8, n8, c8, b8, h8⟩ := (S.mono hE).at 4 (g15) (IsI 8 (((r : Nat) : Int))) rfl; have L0 := b8.c0; have L1 := b8.c1; clear hd hf; intro K hK; go_simp; exact hK.out _ _ (Ext.refl _) h8 (FreshIf.no rfl) }) ?_
    refine RgAll.cons (by { (with_reducible refine RgL.mkG 25 102 false (by rfl) (by kernel_rfl) (by kernel_rfl) (by kernel_rfl) (by kernel_rfl) (by kernel_rfl) ?_ ?_); (focus (intro _ _ h; exact h)); intro v a w' hE hd hf; have ev0 := hf.lit 17 (.pointer (some ⟨g17, 0, none⟩)) (by kernel_rfl) (by kernel_rfl); obtain ⟨s8, a8, n8, c8, b8, h8⟩ := (S.mono hE).at 3 (g17) (IsI 8 (((r : Nat) : Int))) rfl; have L0 := b8.c0; have L1 := b8.c1; clear hd hf; intro K hK; go_simp; exact hK.out _ _ (Ext.refl _) h8 (FreshIf.no rfl) }) ?_
    refine RgAll.cons (by { (with_reducible refine RgL.mkG 25 102 false (by rfl) (by kernel_rfl) (by kernel_rfl) (by kernel_rfl) (by kernel_rfl) (by kernel_rfl) ?_ ?_); (focus (intro _ _ h; exact h)); intro v a w' hE hd hf; have d0 : (IsI 8 (((r : Nat) : Int))) (v 26) w' := hd 26 (by kernel_rfl); have ev0 := hf.val 26 103 _ rfl (by kernel_rfl) (by kernel_rfl) (by kernel_rfl); have d1 : (IsI 8 (((r : Nat) : Int))) (v 27) w' := hd 27 (by kernel_rfl); have ev1 := hf.val 27 104 _ rfl (by kernel_rfl) (by kernel_rfl) (by kernel_rfl); clear hd hf; intro K hK; go_simp; go_at_call 11; go_split_ands; (with_reducible refine Calls.mono (Same_t d0 d1 (rfl) (by decide)) ?_); rintro e w2 ⟨x, rfl, e2, hx⟩; exact hK.out _ _ e2 hx (FreshIf.no rfl) }) ?_
    refine RgAll.cons (by { (with_reducible refine RgL.mkG 25 102 false (by rfl) (by kernel_rfl) (by kernel_rfl) (by kernel_rfl) (by kernel_rfl) (by kernel_rfl) ?_ ?_); (focus (intro _ _ h; exact h)); intro v a w' hE hd hf; have d0 : v 28 = .bool true := hd 28 (by kernel_rfl); have ev0 := hf.val 28 105 _ d0 (by kernel_rfl) (by kernel_rfl) (by kernel_rfl); clear d0; clear hd hf; intro K hK; go_simp; exact hK.out _ _ (Ext.refl _) rfl (FreshIf.no rfl) }) ?_
    refine RgAll.cons (by { (with_reducible refine RgL.mk (by rfl) ?_); intro v a w' hE hd hf; have d0 : v 25 = .bool false := hd 25 (by kernel_rfl); have ev0 := hf.val 25 102 _ d0 (by kernel_rfl) (by kernel_rfl) (by kernel_rfl); clear d0; have d1 : v 29 = .bool false := hd 29 (by kernel_rfl); have ev1 := hf.val 29 106 _ d1 (by kernel_rfl) (by kernel_rfl) (by kernel_rfl); clear d1; clear hd hf; intro K hK; go_simp; exact hK.out _ _ (Ext.refl _) rfl (FreshIf.no rfl) }) ?_
    refine RgAll.cons (by { (with_reducible refine RgL.mk (by rfl) ?_); intro v a w' hE hd hf; have d0 : v 30 = .bool false := hd 30 (by kernel_rfl); have ev0 := hf.val 30 107 _ d0 (by kernel_rfl) (by kernel_rfl) (by kernel_rfl); clear d0; clear hd hf; intro K hK; go_simp; exact hK.out _ _ (Ext.refl _) rfl (FreshIf.no rfl) }) ?_
    refine RgAll.cons (by { (with_reducible refine RgL.mkG 31 108 false (by rfl) (by kernel_rfl) (by kernel_rfl) (by kernel_rfl) (by kernel_rfl) (by kernel_rfl) ?_ ?_); (focus (intro _ _ h; exact h)); intro v a w' hE hd hf; have ev0 := hf.lit 20 (.pointer (some ⟨g20, 0, none⟩)) (by kernel_rfl) (by kernel_rfl); obtain ⟨s8, a8, n8, c8, b8, h8⟩ := (S.mono hE).at 1 (g20) (IsI 128 cz) rfl; have L0 := b8.c0; have L1 := b8.c1; clear hd hf; intro K hK; go_simp; exact hK.out _ _ (Ext.refl _) h8 (FreshIf.no rfl) }) ?_
    refine RgAll.cons (by { (with_reducible refine RgL.mkG 31 108 false (by rfl) (by kernel_rfl) (by kernel_rfl) (by kernel_rfl) (by kernel_rfl) (by kernel_rfl) ?_ ?_); (focus (intro _ _ h; exact h)); intro v a w' hE hd hf; have ev0 := hf.lit 22 (.pointer (some ⟨g22, 0, none⟩)) (by kernel_rfl) (by kernel_rfl); obtain ⟨s8, a8, n8, c8, b8, h8⟩ := (S.mono hE).at 0 (g22) (IsI 128 cz) rfl; have L0 := b8.c0; have L1 := b8.c1; clear hd hf; intro K hK; go_simp; exact hK.out _ _ (Ext.refl _) h8 (FreshIf.no rfl) }) ?_
    refine RgAll.cons (by { (with_reducible refine RgL.mkG 31 108 false (by rfl) (by kernel_rfl) (by kernel_rfl) (by kernel_rfl) (by kernel_rfl) (by kernel_rfl) ?_ ?_); (focus (intro _ _ h; exact h)); intro v a w' hE hd hf; have d0 : (IsI 128 cz) (v 32) w' := hd 32 (by kernel_rfl); have ev0 := hf.val 32 109 _ rfl (by kernel_rfl) (by kernel_rfl) (by kernel_rfl); have d1 : (IsI 128 cz) (v 33) w' := hd 33 (by kernel_rfl); have ev1 := hf.val 33 110 _ rfl (by kernel_rfl) (by kernel_rfl) (by kernel_rfl); clear hd hf; intro K hK; go_simp; go_at_call 11; go_split_ands; (with_reducible refine Calls.mono (Same_t d0 d1 (rfl) (by decide)) ?_); rintro e w2 ⟨x, rfl, e2, hx⟩; exact hK.out _ _ e2 hx (FreshIf.no rfl) }) ?_
    refine RgAll.cons (by { (with_reducible refine RgL.mkG 31 108 false (by rfl) (by kernel_rfl) (by kernel_rfl) (by kernel_rfl) (by kernel_rfl) (by kernel_rfl) ?_ ?_); (focus (intro _ _ h; exact h)); intro v a w' hE hd hf; have d0 : v 34 = .bool true := hd 34 (by kernel_rfl); have ev0 := hf.val 34 111 _ d0 (by kernel_rfl) (by kernel_rfl) (by kernel_rfl); clear d0; clear hd hf; intro K hK; go_simp; exact hK.out _ _ (Ext.refl _) rfl (FreshIf.no rfl) }) ?_
    refine RgAll.cons (by { (with_reducible refine RgL.mk (by rfl) ?_); intro v a w' hE hd hf; have d0 : v 31 = .bool false := hd 31 (by kernel_rfl); have ev0 := hf.val 31 108 _ d0 (by kernel_rfl) (by kernel_rfl) (by kernel_rfl); clear d0; have d1 : v 35 = .bool false := hd 35 (by kernel_rfl); have ev1 := hf.val 35 112 _ d1 (by kernel_rfl) (by kernel_rfl) (by kernel_rfl); clear d1; clear hd hf; intro K hK; go_simp; exact hK.out _ _ (Ext.refl _) rfl (FreshIf.no rfl) }) ?_
    exact RgAll.nil
  intro v W20 e1 hΦ _
  replace S := S.mono e1
  have v36 : v 36 = .bool false := hΦ 36 (by decide)
  simp only [layL, Act.put, List.setIfInBounds_toArray, List.set_cons_zero, List.set_cons_succ, Nat.reduceAdd]
  rw [v36]
  clear v36
  clear hΦ
  clear e1
  refine wpList_nil ?_
  go_upto_region 14 with (fail)
  refine wp_region_rgs 6 [some 114, some 115, some 116, some 117, some 118, some 119] [IsV (.int .i64 0), IsV (.bool false), IsV (.bool false), IsV (.int .i64 ((kn : Nat) : Int)), IsV (.bool false), IsV (.bool false)] [] (by decide) (by kernel_rfl) (by kernel_rfl) (by kernel_rfl) ?_ ?_ ?_ ?_
  · repeat' (first | exact trivial | exact IsV.stb _ | exact IsW.stb _ | exact IsWk.stb _ _ | exact IsI.stb _ _ | exact IsB.stb _ | exact IsR.stb _ _ | exact IsMag.stb _ _ | exact IsPos.stb | apply IsT3.stb | apply IsT2.stb | apply And.intro)
  · exact (fun _ h => by cases h)
  · refine RgAll.cons (by { (with_reducible refine RgL.mk (by rfl) ?_); intro v a w' hE hd hf; have ev0 := hf.lit 16 (.int .i64 0) (by kernel_rfl) (by kernel_rfl); clear hd hf; intro K hK; go_simp; exact hK.out _ _ (Ext.refl _) rfl (FreshIf.no rfl) }) ?_
    refine RgAll.cons (by { (with_reducible refine RgL.mk (by rfl) ?_); intro v a w' hE hd hf; have d0 : v 0 = .int .i64 0 := hd 0 (by kernel_rfl); have ev0 := hf.val 0 114 _ d0 (by kernel_rfl) (by kernel_rfl) (by kernel_rfl); clear d0; clear hd hf; intro K hK; go_simp; exact hK.out _ _ (Ext.refl _) rfl (FreshIf.no rfl) }) ?_
    refine RgAll.cons (by { (with_reducible refine RgL.mk (by rfl) ?_); intro v a w' hE hd hf; have d0 : v 1 = .bool false := hd 1 (by kernel_rfl); have ev0 := hf.val 1 115 _ d0 (by kernel_rfl) (by kernel_rfl) (by kernel_rfl); clear d0; clear hd hf; intro K hK; go_simp; exact hK.out _ _ (Ext.refl _) rfl (FreshIf.no rfl) }) ?_
    refine RgAll.cons (by { (with_reducible refine RgL.mkG 2 116 false (by rfl) (by kernel_rfl) (by kernel_rfl) (by kernel_rfl) (by kernel_rfl) (by kernel_rfl) ?_ ?_); (focus (intro _ _ h; exact h)); intro v a w' hE hd hf; have ev0 := hf.lit 1 (.int .i64 ((kn : Nat) : Int)) (by kernel_rfl) (by kernel_rfl); clear hd hf; intro K hK; go_simp; exact hK.out _ _ (Ext.refl _) rfl (FreshIf.no rfl) }) ?_
    refine RgAll.cons (by { (with_reducible refine RgL.mkG 2 116 false (by rfl) (by kernel_rfl) (by kernel_rfl) (by kernel_rfl) (by kernel_rfl) (by kernel_rfl) ?_ ?_); (focus (intro _ _ h; exact h)); intro v a w' hE hd hf; have d0 : v 3 = .int .i64 ((kn : Nat) : Int) := hd 3 (by kernel_rfl); have ev0 := hf.val 3 117 _ d0 (by kernel_rfl) (by kernel_rfl) (by kernel_rfl); clear d0; have hx9 := HK.out; clear hd hf; intro K hK; go_simp; exact hK.out _ _ (Ext.refl _) rfl (FreshIf.no rfl) }) ?_
    refine RgAll.cons (by { (with_reducible refine RgL.mk (by rfl) ?_); intro v a w' hE hd hf; have d0 : v 2 = .bool false := hd 2 (by kernel_rfl); have ev0 := hf.val 2 116 _ d0 (by kernel_rfl) (by kernel_rfl) (by kernel_rfl); clear d0; have d1 : v 4 = .bool false := hd 4 (by kernel_rfl); have ev1 := hf.val 4 118 _ d1 (by kernel_rfl) (by kernel_rfl) (by kernel_rfl); clear d1; clear hd hf; intro K hK; go_simp; exact hK.out _ _ (Ext.refl _) rfl (FreshIf.no rfl) }) ?_
    exact RgAll.nil
  intro v W21 e1 hΦ _
  replace S := S.mono e1
  have v5 : v 5 = .bool false := hΦ 5 (by decide)
  simp only [layL, Act.put, List.setIfInBounds_toArray, List.set_cons_zero, List.set_cons_succ, Nat.reduceAdd]
  rw [v5]
  clear v5
  clear hΦ
  clear e1
  refine wpList_nil ?_
  go_upto_region 16 with (fail)
  have hl := hid S.lt; have hw := S.ext.size
  refine wp_region_rgs 2 [some 121, some 24] [IsI 2 1, IsB W21] [1] (by decide) (by kernel_rfl) (by kernel_rfl) (by kernel_rfl) ?_ ?_ ?_ ?_
  · repeat' (first | exact trivial | exact IsV.stb _ | exact IsW.stb _ | exact IsWk.stb _ _ | exact IsI.stb _ _ | exact IsB.stb _ | exact IsR.stb _ _ | exact IsMag.stb _ _ | exact IsPos.stb | apply IsT3.stb | apply IsT2.stb | apply And.intro)
  · intro i hi; simp only [List.mem_cons, List.not_mem_nil, or_false] at hi; subst hi; exact IsB.box _
  · refine RgAll.cons (by { (with_reducible refine RgL.mk (by rfl) ?_); intro v a w' hE hd hf; skip; clear hd hf; intro K hK; go_simp; go_at_call 35; go_split_ands; (with_reducible refine Calls.mono (ROf_f _ 1 (by decide) (by decide)) ?_); rintro e w2 ⟨x, rfl, e2, hx⟩; exact hK.out _ _ e2 hx (FreshIf.no rfl) }) ?_
    refine RgAll.cons (by { (with_reducible refine RgL.mk (by rfl) ?_); intro v a w' hE hd hf; skip; clear hd hf; intro K hK; go_simp; refine hK.out _ _ ((Ext.refl _).alloc _) ⟨_, rfl, hE.size, Bx.new _ _ _ _ _⟩ FreshIf.yes }) ?_
    exact RgAll.nil
  intro v W22 e1 hΦ _
  replace S := S.mono e1
  obtain ⟨s121, a121, n121, c121, v0, h121⟩ := (hΦ 0 (by decide) : IsI 2 1 (v 0) W22)
  obtain ⟨g24, v1, q22, b21⟩ := (hΦ 1 (by decide) : IsB W21 (v 1) W22)
  replace S := S.addN (Apart.old hl.out q22) (Nat.le_trans hw q22) b21
  clear b21
  simp only [layL, Act.put, List.setIfInBounds_toArray, List.set_cons_zero, List.set_cons_succ, Nat.reduceAdd]
  rw [v0, v1]
  clear v0 v1
  clear hΦ
  clear hl hw
  clear e1
  obtain ⟨s8, a8, n8, c8, b8, _⟩ := S.at 0 (g24) (IsI 0 0) rfl; have F1 := b8.c0; have F2 := b8.c1; have F3 := b8.f0; have F4 := b8.f1
  refine wpList_step fun K hK => ?_; go_simp; refine hK _ _ ?_; clear hK K
  clear F1 F2 F3 F4 b8
  obtain ⟨W23, hW, S2, G2, _⟩ := S.put 0 (g24) (IsI 0 0) (IsI 2 1) rfl s121 a121 n121 c121 (IsI.gstb _ _) ⟨_, _, _, _, rfl, h121⟩
  rw [← hW]; clear hW S
  have S : St w W23 [(g24, IsI 2 1), (g22, IsI 128 cz), (g20, IsI 128 cz), (g19, IsI 2 zb), (g17, IsI 8 (((r : Nat) : Int))), (g15, IsI 8 (((r : Nat) : Int))), (g13, IsI 8 tz), (g12, IsI 8 sz), (g10, IsI 8 tz), (g9, IsI 8 sz), (g8, IsI 8 za), (w.heap.size, IsR s1 x1)] := S2; clear S2 G2
  clear h121
  refine wpList_nil ?_
  go_upto_region 17 with (fail)
  refine wp_region_rg 20 [some 122, some 123, some 124, some 125, some 126, some 127, some 128, some 129, some 130, some 131, some 132, some 133, some 134, some 135, some 136, some 137, some 138, some 139, some 140, some 6] [IsV (.bool true), IsV (.bool true), IsI 8 (((r : Nat) : Int)), IsV (.int .i64 ((kn : Nat) : Int)), IsI (8 * kn + 2) (((r : Nat) : Int) ^ kn), IsI 8 za, IsV (.int .i64 d1), IsV (.bool true), IsV (.bool true), IsV (.bool true), IsI 8 (((r : Nat) : Int)), IsI 2 1, IsI 9 (((r : Nat) : Int) + 1), IsV (.int .i64 ((kn : Nat) : Int)), IsI (9 * kn + 2) ((((r : Nat) : Int) + 1) ^ kn), IsI 8 za, IsV (.int .i64 d2), IsV (.bool true), IsV (.bool true), IsV (.bool true)] [] 0 (by kernel_rfl) (by decide) (by kernel_rfl) (by kernel_rfl) (by kernel_rfl) (by kernel_rfl) (by kernel_rfl) ?_ ?_ ?_ ?_
  · repeat' (first | exact trivial | exact IsV.stb _ | exact IsW.stb _ | exact IsWk.stb _ _ | exact IsI.stb _ _ | exact IsB.stb _ | exact IsR.stb _ _ | exact IsMag.stb _ _ | exact IsPos.stb | apply IsT3.stb | apply IsT2.stb | apply And.intro)
  · exact (fun _ h => by cases h)
  · refine RgAll.cons (by { (with_reducible refine RgL.mk (by rfl) ?_); intro v a w' hE hd hf; have ev0 := hf.lit 7 (.bool true) (by kernel_rfl) (by kernel_rfl); clear hd hf; intro K hK; go_simp; exact hK.out _ _ (Ext.refl _) rfl (FreshIf.no rfl) }) ?_
    refine RgAll.cons (by { (with_reducible refine RgL.mk (by rfl) ?_); intro v a w' hE hd hf; have d0 : v 0 = .bool true := hd 0 (by kernel_rfl); have ev0 := hf.val 0 122 _ d0 (by kernel_rfl) (by kernel_rfl) (by kernel_rfl); clear d0; clear hd hf; intro K hK; go_simp; exact hK.out _ _ (Ext.refl _) rfl (FreshIf.no rfl) }) ?_
    refine RgAll.cons (by { (with_reducible refine RgL.mkG 1 123 true (by rfl) (by kernel_rfl) (by kernel_rfl) (by kernel_rfl) (by kernel_rfl) (by kernel_rfl) ?_ ?_); (focus (intro _ _ h; exact h)); intro v a w' hE hd hf; have ev0 := hf.lit 15 (.pointer (some ⟨g15, 0, none⟩)) (by kernel_rfl) (by kernel_rfl); obtain ⟨s8, a8, n8, c8, b8, h8⟩ := (S.mono hE).at 5 (g15) (IsI 8 (((r : Nat) : Int))) rfl; have L0 := b8.c0; have L1 := b8.c1; clear hd hf; intro K hK; go_simp; exact hK.out _ _ (Ext.refl _) h8 (FreshIf.no rfl) }) ?_
    refine RgAll.cons (by { (with_reducible refine RgL.mkG 1 123 true (by rfl) (by kernel_rfl) (by kernel_rfl) (by kernel_rfl) (by kernel_rfl) (by kernel_rfl) ?_ ?_); (focus (intro _ _ h; exact h)); intro v a w' hE hd hf; have ev0 := hf.lit 1 (.int .i64 ((kn : Nat) : Int)) (by kernel_rfl) (by kernel_rfl); clear hd hf; intro K hK; go_simp; exact hK.out _ _ (Ext.refl _) rfl (FreshIf.no rfl) }) ?_
    refine RgAll.cons (by { (with_reducible refine RgL.mkG 1 123 true (by rfl) (by kernel_rfl) (by kernel_rfl) (by kernel_rfl) (by kernel_rfl) (by kernel_rfl) ?_ ?_); (focus (intro _ _ h; exact h)); intro v a w' hE hd hf; have d0 : (IsI 8 (((r : Nat) : Int))) (v 2) w' := hd 2 (by kernel_rfl); have ev0 := hf.val 2 124 _ rfl (by kernel_rfl) (by kernel_rfl) (by kernel_rfl); have d1 : v 3 = .int .i64 ((kn : Nat) : Int) := hd 3 (by kernel_rfl); have ev1 := hf.val 3 125 _ d1 (by kernel_rfl) (by kernel_rfl) (by kernel_rfl); clear d1; clear hd hf; intro K hK; go_simp; go_at_call 36; go_split_ands; (with_reducible refine Calls.mono (RPower_f d0 kn (by have := HKL.out; omega) (by have := HKL.out; omega)) ?_); rintro e w2 ⟨x, rfl, e2, hx⟩; exact hK.out _ _ e2 hx (FreshIf.no rfl) }) ?_
    refine RgAll.cons (by { (with_reducible refine RgL.mkG 1 123 true (by rfl) (by kernel_rfl) (by kernel_rfl) (by kernel_rfl) (by kernel_rfl) (by kernel_rfl) ?_ ?_); (focus (intro _ _ h; exact h)); intro v a w' hE hd hf; have ev0 := hf.lit 8 (.pointer (some ⟨g8, 0, none⟩)) (by kernel_rfl) (by kernel_rfl); obtain ⟨s8, a8, n8, c8, b8, h8⟩ := (S.mono hE).at 10 (g8) (IsI 8 za) rfl; have L0 := b8.c0; have L1 := b8.c1; clear hd hf; intro K hK; go_simp; exact hK.out _ _ (Ext.refl _) h8 (FreshIf.no rfl) }) ?_
    refine RgAll.cons (by { (with_reducible refine RgL.mkG 1 123 true (by rfl) (by kernel_rfl) (by kernel_rfl) (by kernel_rfl) (by kernel_rfl) (by kernel_rfl) ?_ ?_); (focus (intro _ _ h; exact h)); intro v a w' hE hd hf; have d0 : (IsI (8 * kn + 2) (((r : Nat) : Int) ^ kn)) (v 4) w' := hd 4 (by kernel_rfl); have ev0 := hf.val 4 126 _ rfl (by kernel_rfl) (by kernel_rfl) (by kernel_rfl); have d1 : (IsI 8 za) (v 5) w' := hd 5 (by kernel_rfl); have ev1 := hf.val 5 127 _ rfl (by kernel_rfl) (by kernel_rfl) (by kernel_rfl); clear hd hf; intro K hK; go_simp; go_at_call 24; go_split_ands; (with_reducible refine Calls.mono ((by have hh := RCmp_f d0 d1 (by have := HKL.out; omega) (by decide); rw [HC1.out.1] at hh; exact hh)) ?_); rintro e w2 ⟨x, rfl, e2, hx⟩; exact hK.out _ _ e2 hx (FreshIf.no rfl) }) ?_
    refine RgAll.cons (by { (with_reducible refine RgL.mkG 1 123 true (by rfl) (by kernel_rfl) (by kernel_rfl) (by kernel_rfl) (by kernel_rfl) (by kernel_rfl) ?_ ?_); (focus (intro _ _ h; exact h)); intro v a w' hE hd hf; have d0 : v 6 = .int .i64 d1 := hd 6 (by kernel_rfl); have ev0 := hf.val 6 128 _ d0 (by kernel_rfl) (by kernel_rfl) (by kernel_rfl); clear d0; have hx9 := HC1.out.2; clear hd hf; intro K hK; go_simp; exact hK.out _ _ (Ext.refl _) rfl (FreshIf.no rfl) }) ?_
    refine RgAll.cons (by { (with_reducible refine RgL.mk (by rfl) ?_); intro v a w' hE hd hf; have d0 : v 1 = .bool true := hd 1 (by kernel_rfl); have ev0 := hf.val 1 123 _ d0 (by kernel_rfl) (by kernel_rfl) (by kernel_rfl); clear d0; have d1 : v 7 = .bool true := hd 7 (by kernel_rfl); have ev1 := hf.val 7 129 _ d1 (by kernel_rfl) (by kernel_rfl) (by kernel_rfl); clear d1; clear hd hf; intro K hK; go_simp; exact hK.out _ _ (Ext.refl _) rfl (FreshIf.no rfl) }) ?_
    refine RgAll.cons (by { (with_reducible refine RgL.mk (by rfl) ?_); intro v a w' hE hd hf; have d0 : v 8 = .bool true := hd 8 (by kernel_rfl); have ev0 := hf.val 8 130 _ d0 (by kernel_rfl) (by kernel_rfl) (by kernel_rfl); clear d0; clear hd hf; intro K hK; go_simp; exact hK.out _ _ (Ext.refl _) rfl (FreshIf.no rfl) }) ?_
    refine RgAll.cons (by { (with_reducible refine RgL.mkG 9 131 true (by rfl) (by kernel_rfl) (by kernel_rfl) (by kernel_rfl) (by kernel_rfl) (by kernel_rfl) ?_ ?_); (focus (intro _ _ h; exact h)); intro v a w' hE hd hf; have ev0 := hf.lit 15 (.pointer (some ⟨g15, 0, none⟩)) (by kernel_rfl) (by kernel_rfl); obtain ⟨s8, a8, n8, c8, b8, h8⟩ := (S.mono hE).at 5 (g15) (IsI 8 (((r : Nat) : Int))) rfl; have L0 := b8.c0; have L1 := b8.c1; clear hd hf; intro K hK; go_simp; exact hK.out _ _ (Ext.refl _) h8 (FreshIf.no rfl) }) ?_
    refine RgAll.cons (by { (with_reducible refine RgL.mkG 9 131 true (by rfl) (by kernel_rfl) (by kernel_rfl) (by kernel_rfl) (by kernel_rfl) (by kernel_rfl) ?_ ?_); (focus (intro _ _ h; exact h)); intro v a w' hE hd hf; have ev0 := hf.lit 24 (.pointer (some ⟨g24, 0, none⟩)) (by kernel_rfl) (by kernel_rfl); obtain ⟨s8, a8, n8, c8, b8, h8⟩ := (S.mono hE).at 0 (g24) (IsI 2 1) rfl; have L0 := b8.c0; have L1 := b8.c1; clear hd hf; intro K hK; go_simp; exact hK.out _ _ (Ext.refl _) h8 (FreshIf.no rfl) }) ?_
    refine RgAll.cons (by { (with_reducible refine RgL.mkG 9 131 true (by rfl) (by kernel_rfl) (by kernel_rfl) (by kernel_rfl) (by kernel_rfl) (by kernel_rfl) ?_ ?_); (focus (intro _ _ h; exact h)); intro v a w' hE hd hf; have d0 : (IsI 8 (((r : Nat) : Int))) (v 10) w' := hd 10 (by kernel_rfl); have ev0 := hf.val 10 132 _ rfl (by kernel_rfl) (by kernel_rfl) (by kernel_rfl); have d1 : (IsI 2 1) (v 11) w' := hd 11 (by kernel_rfl); have ev1 := hf.val 11 133 _ rfl (by kernel_rfl) (by kernel_rfl) (by kernel_rfl); clear hd hf; intro K hK; go_simp; go_at_call 14; go_split_ands; (with_reducible refine Calls.mono (RAdd_f d0 d1 (by decide) (by decide)) ?_); rintro e w2 ⟨x, rfl, e2, hx⟩; exact hK.out _ _ e2 hx (FreshIf.no rfl) }) ?_
    refine RgAll.cons (by { (with_reducible refine RgL.mkG 9 131 true (by rfl) (by kernel_rfl) (by kernel_rfl) (by kernel_rfl) (by kernel_rfl) (by kernel_rfl) ?_ ?_); (focus (intro _ _ h; exact h)); intro v a w' hE hd hf; have ev0 := hf.lit 1 (.int .i64 ((kn : Nat) : Int)) (by kernel_rfl) (by kernel_rfl); clear hd hf; intro K hK; go_simp; exact hK.out _ _ (Ext.refl _) rfl (FreshIf.no rfl) }) ?_
    refine RgAll.cons (by { (with_reducible refine RgL.mkG 9 131 true (by rfl) (by kernel_rfl) (by kernel_rfl) (by kernel_rfl) (by kernel_rfl) (by kernel_rfl) ?_ ?_); (focus (intro _ _ h; exact h)); intro v a w' hE hd hf; have d0 : (IsI 9 (((r : Nat) : Int) + 1)) (v 12) w' := hd 12 (by kernel_rfl); have ev0 := hf.val 12 134 _ rfl (by kernel_rfl) (by kernel_rfl) (by kernel_rfl); have d1 : v 13 = .int .i64 ((kn : Nat) : Int) := hd 13 (by kernel_rfl); have ev1 := hf.val 13 135 _ d1 (by kernel_rfl) (by kernel_rfl) (by kernel_rfl); clear d1; clear hd hf; intro K hK; go_simp; go_at_call 36; go_split_ands; (with_reducible refine Calls.mono (RPower_f d0 kn (by have := HKL.out; omega) (by have := HKL.out; omega)) ?_); rintro e w2 ⟨x, rfl, e2, hx⟩; exact hK.out _ _ e2 hx (FreshIf.no rfl) }) ?_
    refine RgAll.cons (by { (with_reducible refine RgL.mkG 9 131 true (by rfl) (by kernel_rfl) (by kernel_rfl) (by kernel_rfl) (by kernel_rfl) (by kernel_rfl) ?_ ?_); (focus (intro _ _ h; exact h)); intro v a w' hE hd hf; have ev0 := hf.lit 8 (.pointer (some ⟨g8, 0, none⟩)) (by kernel_rfl) (by kernel_rfl); obtain ⟨s8, a8, n8, c8, b8, h8⟩ := (S.mono hE).at 10 (g8) (IsI 8 za) rfl; have L0 := b8.c0; have L1 := b8.c1; clear hd hf; intro K hK; go_simp; exact hK.out _ _ (Ext.refl _) h8 (FreshIf.no rfl) }) ?_
    refine RgAll.cons (by { (with_reducible refine RgL.mkG 9 131 true (by rfl) (by kernel_rfl) (by kernel_rfl) (by kernel_rfl) (by kernel_rfl) (by kernel_rfl) ?_ ?_); (focus (intro _ _ h; exact h)); intro v a w' hE hd hf; have d0 : (IsI (9 * kn + 2) ((((r : Nat) : Int) + 1) ^ kn)) (v 14) w' := hd 14 (by kernel_rfl); have ev0 := hf.val 14 136 _ rfl (by kernel_rfl) (by kernel_rfl) (by kernel_rfl); have d1 : (IsI 8 za) (v 15) w' := hd 15 (by kernel_rfl); have ev1 := hf.val 15 137 _ rfl (by kernel_rfl) (by kernel_rfl) (by kernel_rfl); clear hd hf; intro K hK; go_simp; go_at_call 24; go_split_ands; (with_reducible refine Calls.mono ((by have hh := RCmp_f d0 d1 (by have := HKL.out; omega) (by decide); rw [HC2.out.1] at hh; exact hh)) ?_); rintro e w2 ⟨x, rfl, e2, hx⟩; exact hK.out _ _ e2 hx (FreshIf.no rfl) }) ?_
    refine RgAll.cons (by { (with_reducible refine RgL.mkG 9 131 true (by rfl) (by kernel_rfl) (by kernel_rfl) (by kernel_rfl) (by kernel_rfl) (by kernel_rfl) ?_ ?_); (focus (intro _ _ h; exact h)); intro v a w' hE hd hf; have d0 : v 16 = .int .i64 d2 := hd 16 (by kernel_rfl); have ev0 := hf.val 16 138 _ d0 (by kernel_rfl) (by kernel_rfl) (by kernel_rfl); clear d0; have hx9 := HC2.out.2; clear hd hf; intro K hK; go_simp; exact hK.out _ _ (Ext.refl _) rfl (FreshIf.no rfl) }) ?_
    refine RgAll.cons (by { (with_reducible refine RgL.mk (by rfl) ?_); intro v a w' hE hd hf; have d0 : v 9 = .bool true := hd 9 (by kernel_rfl); have ev0 := hf.val 9 131 _ d0 (by kernel_rfl) (by kernel_rfl) (by kernel_rfl); clear d0; have d1 : v 17 = .bool true := hd 17 (by kernel_rfl); have ev1 := hf.val 17 139 _ d1 (by kernel_rfl) (by kernel_rfl) (by kernel_rfl); clear d1; clear hd hf; intro K hK; go_simp; exact hK.out _ _ (Ext.refl _) rfl (FreshIf.no rfl) }) ?_
    refine RgAll.cons (by { (with_reducible refine RgL.mk (by rfl) ?_); intro v a w' hE hd hf; have d0 : v 18 = .bool true := hd 18 (by kernel_rfl); have ev0 := hf.val 18 140 _ d0 (by kernel_rfl) (by kernel_rfl) (by kernel_rfl); clear d0; clear hd hf; intro K hK; go_simp; exact hK.out _ _ (Ext.refl _) rfl (FreshIf.no rfl) }) ?_
    exact RgAll.nil
  intro v W24 e1 hΦ _
  replace S := S.mono e1
  have v19 : v 19 = .bool true := hΦ 19 (by decide)
  simp only [layL, Act.put, List.setIfInBounds_toArray, List.set_cons_zero, List.set_cons_succ, Nat.reduceAdd]
  rw [v19]
  clear v19
  clear hΦ
  clear e1
  refine wpAny_done (by kernel_rfl) ?_ _
  go_wp2_with fail
  exact bodyPost_ret (v := .bool true) (by simp [results, Tryz.results4, go_sem]) rfl (⟨_, rfl, S.ext, rfl⟩)

theorem root_exists (m k : Nat) (hk : 1 ≤ k) : ∃ r, IsRoot m k r := by
  have key : ∀ b, m < (b + 1) ^ k → ∃ r, IsRoot m k r := by
    intro b
    induction b with
    | zero =>
      intro h
      rw [Nat.zero_add, Nat.one_pow] at h
      exact ⟨0, by rw [Nat.zero_pow (by omega)]; omega, by rw [Nat.zero_add, Nat.one_pow]; exact h⟩
    | succ b ih =>
      intro h
      by_cases h1 : (b + 1) ^ k ≤ m
      · exact ⟨b + 1, h1, h⟩
      · exact ih (by omega)
  refine key m ?_
  have h : (m + 1) ^ 1 ≤ (m + 1) ^ k := Nat.pow_le_pow_right (by omega) hk
  rw [Nat.pow_one] at h; omega
theorem Calls.t2 {f : Nat} {a : Array Value} {w : World} {k k' : Nat} {z : Int} {Ψ : Value → World → Prop} (h : Calls Tryz.prog f a w (Ret w (IsT2 (IsI k z) Ψ))) (hk : k ≤ k') : Calls Tryz.prog f a w (Ret w (IsT2 (IsI k' z) Ψ)) :=
  Calls.mono h fun _ _ h => h.mono fun _ _ ⟨a, b, h1, h2, h3⟩ => ⟨a, b, h1, h2.mono hk, h3⟩
theorem Calls.t3 {f : Nat} {a : Array Value} {w : World} {k k' : Nat} {z y : Int} {Ψ : Value → World → Prop} (h : Calls Tryz.prog f a w (Ret w (IsT3 (IsI k z) (IsI k y) Ψ))) (hk : k ≤ k') : Calls Tryz.prog f a w (Ret w (IsT3 (IsI k' z) (IsI k' y) Ψ)) :=
  Calls.mono h fun _ _ h => h.mono fun _ _ ⟨a, b, c, h1, h2, h3, h4⟩ => ⟨a, b, c, h1, h2.mono hk, h3.mono hk, h4⟩
theorem RSqrt_f {k1 : Nat} {z1 : Int} {x : Value} {w : World} (hx : IsI k1 z1 x w) (l1 : k1 ≤ 1048576) (h0 : 0 ≤ z1) (r : Nat) (hr : IsRoot z1.natAbs 2 r) :
    Calls Tryz.prog 30 #[x] w (Ret w (IsT3 (IsI k1 (r : Int)) (IsI k1 (z1 - (r : Int) * (r : Int))) (IsV (.int .i64 0)))) := by
  obtain ⟨m, rfl⟩ := Int.eq_ofNat_of_zero_le h0
  rw [Int.natAbs_natCast] at hr
  obtain ⟨h1, h2⟩ := hr
  rw [Nat.pow_two] at h1 h2
  rcases Nat.eq_zero_or_pos m with h3 | h3
  · subst h3
    have : r = 0 := by
      rcases Nat.eq_zero_or_pos r with h | h
      · exact h
      · have := Nat.mul_pos h h; omega
    subst this
    exact Calls.t3 (k := 0) (RSqrt0_f hx) (by omega)
  · exact RSqrt1_f hx l1 h3 r ⟨h1, h2⟩

/-- What the square root answers, as one pair of numbers and an error. -/
theorem sqrt_both (za : Int) : ∃ sz tz e : Int,
    (∀ (x : Value) (w : World), IsI 8 za x w → Calls Tryz.prog 29 #[x] w (Ret w (IsT3 (IsI 8 sz) (IsI 8 tz) (IsV (.int .i64 e))))) ∧
    (∀ (x : Value) (w : World), IsI 8 za x w → Calls Tryz.prog 30 #[x] w (Ret w (IsT3 (IsI 8 sz) (IsI 8 tz) (IsV (.int .i64 e))))) := by
  by_cases h : za < 0
  · exact ⟨0, 0, 1, fun x w hx => Calls.t3 (k := 0) (Sqrtneg_f hx (by decide) h) (by decide), fun x w hx => Calls.t3 (k := 0) (RSqrtneg_f hx h) (by decide)⟩
  · obtain ⟨r, hr⟩ := root_exists za.natAbs 2 (by decide)
    exact ⟨_, _, 0, fun x w hx => Sqrt_f hx (by decide) (by omega) r hr, fun x w hx => RSqrt_f hx (by decide) (by omega) r hr⟩
theorem pow_both (zb nn : Int) (hlo : -9223372036854775808 ≤ nn) (hhi : nn ≤ 9223372036854775807) : ∃ cz i : Int,
    (∀ (x : Value) (w : World), IsI 2 zb x w → Calls Tryz.prog 33 #[x, .int .i64 nn] w (Ret w (IsT2 (IsI 128 cz) (IsV (.int .i64 i))))) ∧
    (∀ (x : Value) (w : World), IsI 2 zb x w → Calls Tryz.prog 34 #[x, .int .i64 nn] w (Ret w (IsT2 (IsI 128 cz) (IsV (.int .i64 i))))) := by
  by_cases h : nn < 0 ∨ 4096 < nn
  · exact ⟨0, 1, fun x w hx => Calls.t2 (k := 0) (Powrng_f hx nn h hlo hhi) (by decide), fun x w hx => Calls.t2 (k := 0) (RPowrng_f hx nn h) (by decide)⟩
  · obtain ⟨n, rfl⟩ := Int.eq_ofNat_of_zero_le (show 0 ≤ nn by omega)
    have h4 : n ≤ 4096 := by omega
    by_cases hb : 1 < bitLen zb.natAbs ∧ (4096 : Int) ≤ ((bitLen zb.natAbs : Nat) - 1 : Int) * n
    · exact ⟨0, 2, fun x w hx => Calls.t2 (k := 0) (Powbig_f hx (by decide) n (by omega) (by omega) hb.1 hb.2) (by decide), fun x w hx => Calls.t2 (k := 0) (RPowbig_f hx (by decide) n h4 hb.1 hb.2) (by decide)⟩
    · by_cases hs : bitLen (zb ^ n).natAbs ≤ 4096
      · exact ⟨_, 0, fun x w hx => Pow_f hx (by decide) n h4 hb hs, fun x w hx => RPow_f hx (by decide) n h4 hb hs⟩
      · exact ⟨0, 2, fun x w hx => Calls.t2 (k := 0) (Powhuge_f hx (by decide) n h4 hb (by omega)) (by decide), fun x w hx => Calls.t2 (k := 0) (RPowhuge_f hx (by decide) n h4 hb (by omega)) (by decide)⟩

theorem Roots_c (w : World) (s1 : Bool) (a1 : Option Addr) (n1 c1 : Nat) (x1 : List Nat) (kk nn : Int) (h1 : Wd w a1 n1 c1 x1) (ht : Tab w) (hk : kk ≤ 9223372036854775807) (hlo : -9223372036854775808 ≤ nn) (hhi : nn ≤ 9223372036854775807) :
    Calls Tryz.prog 4 #[.agg #[.bool s1, .slice a1 n1 c1], .int .i64 kk, .int .i64 nn] w (Ret w (IsV (.bool true))) := by
  obtain ⟨sz, tz, e, hS, hS2⟩ := sqrt_both (rawZ s1 x1 8)
  obtain ⟨cz, i, hP, hP2⟩ := pow_both (rawZ s1 (x1.take (min x1.length 2)) 2) nn hlo hhi
  by_cases h : rawZ s1 x1 8 < 0 ∨ kk < 1
  · exact Roots_err w s1 a1 n1 c1 x1 kk nn h1 ht 0 _ _ sz tz cz e i rfl rfl hS hS2 (fun x w hx => Calls.t2 (k := 0) (Rootneg_f hx (by decide) kk h) (by decide)) (fun x w hx => Calls.t2 (k := 0) (RRootneg_f hx kk h) (by decide)) hP hP2
  · obtain ⟨kn, rfl⟩ := Int.eq_ofNat_of_zero_le (show 0 ≤ kk by omega)
    obtain ⟨r, hr⟩ := root_exists (rawZ s1 x1 8).natAbs kn (by omega)
    have hR : ∀ (x : Value) (w : World), IsI 8 (rawZ s1 x1 8) x w → Calls Tryz.prog 31 #[x, .int .i64 (kn : Nat)] w (Ret w (IsT2 (IsI 8 (r : Nat)) (IsV (.int .i64 0)))) := fun x w hx => Root_f hx (by decide) (by omega) kn (by omega) (by omega) r hr
    have hR2 : ∀ (x : Value) (w : World), IsI 8 (rawZ s1 x1 8) x w → Calls Tryz.prog 32 #[x, .int .i64 (kn : Nat)] w (Ret w (IsT2 (IsI 8 (r : Nat)) (IsV (.int .i64 0)))) := fun x w hx => RRoot_f hx (by decide) (by omega) kn (by omega) r hr
    by_cases h4 : kn ≤ 40
    · refine Roots_small w s1 a1 n1 c1 x1 nn h1 ht kn r _ _ sz tz cz e i rfl rfl hS hS2 hR hR2 hP hP2 h4 ?_
      obtain ⟨h5, h6⟩ := hr
      have h7 : (((r ^ kn : Nat)) : Int) = (r : Int) ^ kn := Int.natCast_pow _ _
      have h8 : ((((r + 1) ^ kn : Nat)) : Int) = ((r : Int) + 1) ^ kn := Int.natCast_pow _ _
      omega
    · exact Roots_big w s1 a1 n1 c1 x1 _ nn h1 ht (r : Int) _ _ sz tz cz e i rfl rfl hS hS2 hR hR2 hP hP2 (by omega)
end Go.Proofs.YtpflfagjkmeeiaaGreatDoor
namespace Go.Proofs.YtpflfagjkmeeiaaGreatDoor
open Go Go.RowKit Go.ChangeShapes Go.WideShapes Go.ChangeAt

theorem wf_i64 (n : Int) (h : (Lit.int .i64 n).wf = true) : -9223372036854775808 ≤ n ∧ n ≤ 9223372036854775807 := by
  simp only [Lit.wf, Bool.and_eq_true, decide_eq_true_eq] at h
  have h1 : IntKind.min .i64 = -9223372036854775808 := rfl
  have h2 : IntKind.max .i64 = 9223372036854775807 := rfl
  rw [h1, h2] at h
  exact h
set_option maxRecDepth 100000 in
theorem integerRoots_lifted (os : Os) (started : os.Started) (H : Type) (enc : TypeId × Value → H) :
    ReturnsInHanded {} Tryz.checked os 4 .any (fun w args => (Rows.integerRootsSpec.pre enc Tryz.prog Tryz.f4 [] false w args ∧ laidMetH Tryz.prog laid3 w) ∧ sizedMet enc Tryz.prog Tryz.f4 (OpenSpec.ofChange Rows.integerRootsSpec) false w args)
      (Rows.integerRootsSpec.post enc Tryz.prog Tryz.f4 false true false false) := by
  refine returnsInHanded_of_change_and (C := Tryz.checked) (X := fun w _ => laidMetH Tryz.prog laid3 w) (fun _ _ _ hh h => h.of_heap hh) own started (by kernel_rfl) Tryz.func4
    (ChangeSpec.witness_shaped (enc := enc) (C := Tryz.checked) (os := os) (X := fun w _ => laidMetH Tryz.prog laid3 w) false (World.doorLaid Tryz.prog 2000 os) #[.agg #[.bool false, .slice none 0 0], .int .i64 0, .int .i64 0] 8 rfl (World.shaped_of_RefB (by kernel_rfl) (by kernel_rfl)) (by kernel_rfl) (by kernel_rfl) (by kernel_rfl) (door_met os _)) ?_
  intro W base args ds gs before hval0 hW _ _ hL _
  have hval : ∀ (j : Nat) t v, Tryz.f4.params[j]? = some t → args[j]? = some v → Value.okWide Tryz.prog W .any base t v := hval0
  have hW' := hW
  obtain ⟨p, q, hA0, hV, rfl, hfz, hnd⟩ := hW
  have hA : DataW.TrodAll enc Tryz.prog W 0 (fun _ => true) true Tryz.f4.params.toList args.toList ds p := hA0
  rw [Tryz.params4] at hA hval
  obtain ⟨v1, v2, v3, d1, d2, d3, p1, p2, p3, rfl, rfl, rfl, k1, k2, k3⟩ := trodAll_three hA
  obtain ⟨rfl, rfl⟩ := trodVars_none hV
  obtain ⟨s1, a1, n1, c1, x1, rfl, w1, r1⟩ := raw_open (hval 0 24 v1 rfl rfl) k1
  obtain ⟨m2, rfl, rfl, rfl, hw2⟩ := open_int Tryz.underlying3 (hval 1 3 v2 rfl rfl) k2
  obtain ⟨m3, rfl, rfl, rfl, hw3⟩ := open_int Tryz.underlying3 (hval 2 3 v3 rfl rfl) k3
  clear hA0 hval0
  have y2 := wf_i64 _ hw2
  have y3 := wf_i64 _ hw3
  refine (Roots_c W s1 a1 n1 c1 x1 m2 m3 w1 (tab_of_laid hL) y2.2 y3.1 y3.2).mono fun e W' ⟨x, he, hb, hx⟩ => ?_
  have hx : x = .bool true := hx
  subst he; subst hx
  refine ⟨_, rfl, post_of_below (pa := p1 ++ ([] ++ [])) (pv := []) hW' (fun _ _ _ => trodAll_mk1 (shut_bool Tryz.underlying4 true)) (fun sp hsp => ?_) (fun _ _ => rfl) (by simp) hb (ok_one (by kernel_rfl) rfl (okWide_bool_mk Tryz.underlying4 _))⟩
  rw [Tryz.params4]
  exact trodAll_mk3 (r1 W' sp hb fun q hq => hsp q (by simp [hq])) (shut_int Tryz.underlying3 hw2) (shut_int Tryz.underlying3 hw3)

theorem integerRoots_row : Rows.IntegerRootsSaid :=
  OpenClaim.holds_of_wide 4 Tryz.f4 rfl rfl rfl rfl rfl rfl rfl ⟨rfl, rfl, rfl, rfl, rfl⟩ rfl rfl rfl rfl rfl (by kernel_rfl) Tryz.func4 (by kernel_rfl)
    (of_decide_eq_true (by kernel_rfl)) (by unfold Func.isWrapper; first | (rw [if_pos (by decide +kernel)]; kernel_rfl) | (rw [if_neg (by decide +kernel)]; exact ⟨rfl, rfl⟩))
    (fun os started H enc _ => integerRoots_lifted os started H enc)

set_option maxRecDepth 100000 in
/-- The tied card. -/
theorem integerRoots_holds : Rows.IntegerRootsCardSaid :=
  Claim7.holds_tied_plain_at .later [] [.data, .data, .data] true Rows.integerRootsCard.stood.harness false
    integerRoots_row (fun _ h => by cases h) (by kernel_rfl) (fun _ h => by cases h) integerRoots_row_tie rfl ⟨rfl, rfl⟩ (by kernel_rfl) rfl
    (fun f fn hf hfn => by
      obtain rfl : f = 4 := Option.some.inj ((show Tryz.prog.funcNamed "algorist/algoristlaw01.IntegerRoots" = some 4 by kernel_rfl).symm.trans hf) |>.symm
      obtain rfl : fn = Tryz.f4 := (Option.some.inj (Tryz.func4.symm.trans hfn)).symm
      refine ⟨by kernel_rfl, fun j t ht => ?_⟩
      rw [Tryz.params4] at ht
      have h3 : t = 24 ∨ t = 3 := by
        rcases j with _ | _ | _ | j
        · left; simpa using ht.symm
        · right; simpa using ht.symm
        · right; simpa using ht.symm
        · simp at ht
      rcases h3 with rfl | rfl
      · exact (show Tryz.prog.wantsStandIn 24 = false by kernel_rfl)
      · exact (show Tryz.prog.wantsStandIn 3 = false by kernel_rfl))
    (by kernel_rfl)
#print axioms integerRoots_holds
end Go.Proofs.YtpflfagjkmeeiaaGreatDoor
