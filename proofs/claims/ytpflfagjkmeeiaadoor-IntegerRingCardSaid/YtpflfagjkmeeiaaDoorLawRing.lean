/-
  The statement IntegerRing: for every three descriptions of integers the law answers true, and the descriptions read behind the call as they read before. The listed package variables hold what the program's text lays (the card ties them).
-/
import Derived.Test.YtpflfagjkmeeiaaDoorEx
import Derived.Test.YtpflfagjkmeeiaaDoorRead
import Derived.Test.YtpflfagjkmeeiaaDoorTie
import Derived.Test.YtpflfagjkmeeiaaDoorCards
import Derived.SevenTiedAt
namespace Go.Proofs.YtpflfagjkmeeiaaDoor
open Go Go.RowKit

/-- The row of five integers that the law makes. -/
def Row5 (g : Nat) (w : World) : Prop := g < w.heap.size ∧ ∀ k, k < 5 → ∃ s a n c z, w.cell? ⟨g, 2 * k, none⟩ = some (.bool s) ∧ w.cell? ⟨g, 2 * k + 1, none⟩ = some (.slice a n c) ∧ IntAt w 25 s a n c z
theorem Row5.ext {g : Nat} {w w' : World} (h : Row5 g w) (e : Ext w w') : Row5 g w' :=
  ⟨Nat.lt_of_lt_of_le h.1 e.size, fun k hk => let ⟨s, a, n, c, z, h1, h2, h3⟩ := h.2 k hk; ⟨s, a, n, c, z, e.cell h1, e.cell h2, h3.ext e⟩⟩
def IsRow5 : Value → World → Prop := fun x w => ∃ g, x = .slice (some ⟨g, 0, none⟩) 5 5 ∧ Row5 g w
theorem IsRow5.stb : Stb IsRow5 := fun _ _ _ e ⟨g, h1, h2⟩ => ⟨g, h1, h2.ext e⟩
theorem IsRow5.mk (w : World) {s0 s1 s2 s3 s4 : Bool} {a0 a1 a2 a3 a4 : Option Addr} {n0 n1 n2 n3 n4 c0 c1 c2 c3 c4 k0 k1 k2 k3 k4 : Nat} {z0 z1 z2 z3 z4 : Int}
    (h0 : IntAt w k0 s0 a0 n0 c0 z0) (h1 : IntAt w k1 s1 a1 n1 c1 z1) (h2 : IntAt w k2 s2 a2 n2 c2 z2) (h3 : IntAt w k3 s3 a3 n3 c3 z3) (h4 : IntAt w k4 s4 a4 n4 c4 z4) (l0 : k0 ≤ 25) (l1 : k1 ≤ 25) (l2 : k2 ≤ 25) (l3 : k3 ≤ 25) (l4 : k4 ≤ 25) :
    IsRow5 (.slice (some ⟨w.heap.size, 0, none⟩) 5 5) (w.alloc (.cells #[.bool s0, .slice a0 n0 c0, .bool s1, .slice a1 n1 c1, .bool s2, .slice a2 n2 c2, .bool s3, .slice a3 n3 c3, .bool s4, .slice a4 n4 c4] 27)) := by
  have e : Ext w (w.alloc (.cells #[.bool s0, .slice a0 n0 c0, .bool s1, .slice a1 n1 c1, .bool s2, .slice a2 n2 c2, .bool s3, .slice a3 n3 c3, .bool s4, .slice a4 n4 c4] 27)) := (Ext.refl _).alloc _
  refine ⟨_, rfl, by simp, fun k hk => ?_⟩
  have hk5 : k = 0 ∨ k = 1 ∨ k = 2 ∨ k = 3 ∨ k = 4 := by omega
  rcases hk5 with rfl | rfl | rfl | rfl | rfl
  · exact ⟨_, _, _, _, _, by simp, by simp, (h0.ext e).mono l0⟩
  · exact ⟨_, _, _, _, _, by simp, by simp, (h1.ext e).mono l1⟩
  · exact ⟨_, _, _, _, _, by simp, by simp, (h2.ext e).mono l2⟩
  · exact ⟨_, _, _, _, _, by simp, by simp, (h3.ext e).mono l3⟩
  · exact ⟨_, _, _, _, _, by simp, by simp, (h4.ext e).mono l4⟩

theorem cmpI_cases (a b : Int) : (a < b ∧ cmpI a b = -1) ∨ (a = b ∧ cmpI a b = 0) ∨ (b < a ∧ cmpI a b = 1) := by
  rcases Int.lt_trichotomy a b with h | h | h
  · exact .inl ⟨h, cmpI_lt h⟩
  · exact .inr (.inl ⟨h, cmpI_eq h⟩)
  · exact .inr (.inr ⟨h, cmpI_gt h⟩)
theorem cmpI_mul (a b c : Int) : cmpI (a * c) (b * c) = cmpI a b * c.sign := by
  rcases Int.lt_trichotomy c 0 with hc | hc | hc
  · rw [Int.sign_eq_neg_one_of_neg hc]
    rcases cmpI_cases a b with ⟨h, e⟩ | ⟨h, e⟩ | ⟨h, e⟩ <;> rw [e]
    · rw [cmpI_gt (Int.mul_lt_mul_of_neg_right h hc)]; rfl
    · rw [h, cmpI_eq rfl]; rfl
    · rw [cmpI_lt (Int.mul_lt_mul_of_neg_right h hc)]; rfl
  · subst hc; simp [cmpI]
  · rw [Int.sign_eq_one_of_pos hc]
    rcases cmpI_cases a b with ⟨h, e⟩ | ⟨h, e⟩ | ⟨h, e⟩ <;> rw [e]
    · rw [cmpI_lt (Int.mul_lt_mul_of_pos_right h hc)]; rfl
    · rw [h, cmpI_eq rfl]; rfl
    · rw [cmpI_gt (Int.mul_lt_mul_of_pos_right h hc)]; rfl
theorem sign_cases (z : Int) : z.sign = -1 ∨ z.sign = 0 ∨ z.sign = 1 := by
  rcases Int.lt_trichotomy z 0 with h | h | h
  · exact .inl (Int.sign_eq_neg_one_of_neg h)
  · subst h; exact .inr (.inl rfl)
  · exact .inr (.inr (Int.sign_eq_one_of_pos h))
theorem cmpI_sub (a b : Int) : (a - b).sign = cmpI a b := by
  rcases cmpI_cases a b with ⟨h, e⟩ | ⟨h, e⟩ | ⟨h, e⟩ <;> rw [e]
  · exact Int.sign_eq_neg_one_of_neg (by omega)
  · rw [h, Int.sub_self]; rfl
  · exact Int.sign_eq_one_of_pos (by omega)
theorem wrap_small (z : Int) (h : z = -1 ∨ z = 0 ∨ z = 1) : IntKind.i64.wrap z = z := by
  rcases h with rfl | rfl | rfl <;> decide
theorem mul_small (x y : Int) (hx : x = -1 ∨ x = 0 ∨ x = 1) (hy : y = -1 ∨ y = 0 ∨ y = 1) : x * y = -1 ∨ x * y = 0 ∨ x * y = 1 := by
  rcases hx with rfl | rfl | rfl <;> rcases hy with rfl | rfl | rfl <;> decide

set_option maxRecDepth 100000 in
set_option maxHeartbeats 8000000 in
theorem Ring_1 (w : World) (s1 s2 s3 : Bool) (a1 a2 a3 : Option Addr) (n1 n2 n3 c1 c2 c3 : Nat) (x1 x2 x3 : List Nat) (h1 : Wd w a1 n1 c1 x1) (h2 : Wd w a2 n2 c2 x2) (h3 : Wd w a3 n3 c3 x3) (ht : Tab w)
    (za zb zc : Int) (ha : rawZ s1 x1 12 = za) (hb : rawZ s2 x2 12 = zb) (hc : rawZ s3 x3 12 = zc) :
    Calls Tryd.prog 7 #[.agg #[.bool s1, .slice a1 n1 c1], .agg #[.bool s2, .slice a2 n2 c2], .agg #[.bool s3, .slice a3 n3 c3]] w (Ret w (IsV (.bool true))) := by
  have Ha := hid ha
  have Hb := hid hb
  have Hc := hid hc
  obtain ⟨od, ho⟩ : ∃ o, o = cmpI za zb := ⟨_, rfl⟩
  obtain ⟨on, hon⟩ : ∃ o, o = -od := ⟨_, rfl⟩
  obtain ⟨sc, hsc⟩ : ∃ o, o = zc.sign := ⟨_, rfl⟩
  obtain ⟨sa, hsa⟩ : ∃ o, o = za.sign := ⟨_, rfl⟩
  obtain ⟨sb, hsb⟩ : ∃ o, o = zb.sign := ⟨_, rfl⟩
  obtain ⟨sp, hsp⟩ : ∃ o, o = (za * zb).sign := ⟨_, rfl⟩
  obtain ⟨os, hos⟩ : ∃ o, o = od * sc := ⟨_, rfl⟩
  have co : od = -1 ∨ od = 0 ∨ od = 1 := by
    rw [ho]
    rcases cmpI_cases za zb with ⟨_, e⟩ | ⟨_, e⟩ | ⟨_, e⟩
    · exact .inl e
    · exact .inr (.inl e)
    · exact .inr (.inr e)
  have csc : sc = -1 ∨ sc = 0 ∨ sc = 1 := hsc ▸ sign_cases zc
  have csa : sa = -1 ∨ sa = 0 ∨ sa = 1 := hsa ▸ sign_cases za
  have csb : sb = -1 ∨ sb = 0 ∨ sb = 1 := hsb ▸ sign_cases zb
  have HO1 := hid ho.symm
  have HO2 := hid (show cmpI (za + zc) (zb + zc) = od by
    rw [ho]
    rcases cmpI_cases za zb with ⟨h, e⟩ | ⟨h, e⟩ | ⟨h, e⟩ <;> rw [e]
    · exact cmpI_lt (by omega)
    · exact cmpI_eq (by omega)
    · exact cmpI_gt (by omega))
  have HO3 := hid (show cmpI zb za = on by
    rw [hon, ho]
    rcases cmpI_cases za zb with ⟨h, e⟩ | ⟨h, e⟩ | ⟨h, e⟩ <;> rw [e]
    · exact cmpI_gt h
    · exact cmpI_eq h.symm
    · exact cmpI_lt h)
  have HO4 := hid (show IntKind.i64.wrap (-on) = od by
    have e : -on = od := by rw [hon]; omega
    rw [e]; exact wrap_small od co)
  have HO5 := hid (show cmpI (za * zc) (zb * zc) = os by rw [hos, ho, hsc]; exact cmpI_mul za zb zc)
  have HO6 := hid (show IntKind.i64.wrap (od * sc) = os by rw [hos]; exact wrap_small _ (mul_small od sc co csc))
  have HO7 := hid (show IntKind.i64.wrap (sa * sb) = sp by
    have e : sa * sb = sp := by rw [hsa, hsb, hsp, Int.sign_mul]
    rw [← e]; exact wrap_small _ (mul_small sa sb csa csb))
  have HO8 := hid (show (za - zb).sign = od by rw [ho]; exact cmpI_sub za zb)
  have HSc := hid hsc.symm
  have HSa := hid hsa.symm
  have HSb := hid hsb.symm
  have HSp := hid hsp.symm
  clear ha hb hc ho hon hsc hsa hsb hsp hos co csc csa csb
  obtain ⟨W, hW, S⟩ : ∃ W, W = ((w.alloc (.cells #[.bool s1, .slice a1 n1 c1] 24)).alloc (.cells #[.bool s2, .slice a2 n2 c2] 24)).alloc (.cells #[.bool s3, .slice a3 n3 c3] 24) ∧ St w W [(w.heap.size + 1 + 1, IsR s3 x3), (w.heap.size + 1, IsR s2 x2), (w.heap.size, IsR s1 x1)] := ⟨_, rfl, ((((St.start w).new' (w.heap.size) (by simp) s1 a1 n1 c1 24 (IsR s1 x1) (IsR.gstb _ _) ⟨_, _, _, rfl, h1⟩).new' (w.heap.size + 1) (by simp) s2 a2 n2 c2 24 (IsR s2 x2) (IsR.gstb _ _) ⟨_, _, _, rfl, h2.ext ((Ext.refl _).alloc _)⟩).new' (w.heap.size + 1 + 1) (by simp) s3 a3 n3 c3 24 (IsR s3 x3) (IsR.gstb _ _) ⟨_, _, _, rfl, h3.ext (((Ext.refl _).alloc _).alloc _)⟩)⟩
  clear h1 h2 h3
  go_enter Tryd.func7, Tryd.ntmps7
  go_upto_region 1 with (fail)
  rw [← hW]
  clear hW
  refine wp_region_rgs 2 [some 16, some 7] [IsV (.bool true), IsV (.bool true)] [] (by decide) (by kernel_rfl) (by kernel_rfl) (by kernel_rfl) ?_ ?_ ?_ ?_
  · repeat' (first | exact trivial | exact IsV.stb _ | exact IsI.stb _ _ | exact IsB.stb _ | exact IsR.stb _ _ | exact IsRow5.stb | apply And.intro)
  · exact (fun _ h => by cases h)
  · refine RgAll.cons (by { (with_reducible refine RgL.mk (by rfl) ?_); intro v a w' hE hd hf; skip; clear hd hf; intro K hK; go_simp; go_at_call 9; go_split_ands; (with_reducible refine Calls.mono (examples_f _ (ht.ext (S.ext.trans hE))) ?_); rintro e w2 ⟨x, rfl, e2, hx⟩; exact hK.out _ _ e2 hx (FreshIf.no rfl) }) ?_
    refine RgAll.cons (by { (with_reducible refine RgL.mk (by rfl) ?_); intro v a w' hE hd hf; have d0 : v 0 = .bool true := hd 0 (by kernel_rfl); have ev0 := hf.val 0 16 _ d0 (by kernel_rfl) (by kernel_rfl) (by kernel_rfl); clear d0; clear hd hf; intro K hK; go_simp; exact hK.out _ _ (Ext.refl _) rfl (FreshIf.no rfl) }) ?_
    exact RgAll.nil
  intro v W1 e1 hΦ _
  replace S := S.mono e1
  have v1 : v 1 = .bool true := hΦ 1 (by decide)
  simp only [layL, Act.put, List.setIfInBounds_toArray, List.set_cons_zero, List.set_cons_succ, Nat.reduceAdd]
  rw [v1]
  clear v1
  clear hΦ
  clear e1
  refine wpList_nil ?_
  go_upto_region 4 with (fail)
  have hl := hid S.lt; have hw := S.ext.size
  refine wp_region_rgs 3 [some 19, some 20, some 8] [IsR s1 x1, IsI 12 za, IsB W1] [2] (by decide) (by kernel_rfl) (by kernel_rfl) (by kernel_rfl) ?_ ?_ ?_ ?_
  · repeat' (first | exact trivial | exact IsV.stb _ | exact IsI.stb _ _ | exact IsB.stb _ | exact IsR.stb _ _ | exact IsRow5.stb | apply And.intro)
  · intro i hi; simp only [List.mem_cons, List.not_mem_nil, or_false] at hi; subst hi; exact IsB.box _
  · refine RgAll.cons (by { (with_reducible refine RgL.mk (by rfl) ?_); intro v a w' hE hd hf; have ev0 := hf.lit 3 (.pointer (some ⟨w.heap.size, 0, none⟩)) (by kernel_rfl) (by kernel_rfl); obtain ⟨s8, a8, n8, c8, b8, h8⟩ := (S.mono hE).at 2 (w.heap.size) (IsR s1 x1) rfl; have L0 := b8.c0; have L1 := b8.c1; clear hd hf; intro K hK; go_simp; exact hK.out _ _ (Ext.refl _) h8 (FreshIf.no rfl) }) ?_
    refine RgAll.cons (by { (with_reducible refine RgL.mk (by rfl) ?_); intro v a w' hE hd hf; have d0 : (IsR s1 x1) (v 0) w' := hd 0 (by kernel_rfl); have ev0 := hf.val 0 19 _ rfl (by kernel_rfl) (by kernel_rfl) (by kernel_rfl); clear hd hf; intro K hK; go_simp; go_at_call 10; go_split_ands; (with_reducible refine Calls.mono (Calls.mono (Made_f d0 (by decide)) fun _ _ h => h.eqz Ha.out) ?_); rintro e w2 ⟨x, rfl, e2, hx⟩; exact hK.out _ _ e2 hx (FreshIf.no rfl) }) ?_
    refine RgAll.cons (by { (with_reducible refine RgL.mk (by rfl) ?_); intro v a w' hE hd hf; skip; clear hd hf; intro K hK; go_simp; refine hK.out _ _ ((Ext.refl _).alloc _) ⟨_, rfl, hE.size, Bx.new _ _ _ _ _⟩ FreshIf.yes }) ?_
    exact RgAll.nil
  intro v W2 e1 hΦ _
  replace S := S.mono e1
  obtain ⟨s20, a20, n20, c20, v1, h20⟩ := (hΦ 1 (by decide) : IsI 12 za (v 1) W2)
  obtain ⟨g8, v2, q2, b1⟩ := (hΦ 2 (by decide) : IsB W1 (v 2) W2)
  replace S := S.addN (Apart.old hl.out q2) (Nat.le_trans hw q2) b1
  clear b1
  simp only [layL, Act.put, List.setIfInBounds_toArray, List.set_cons_zero, List.set_cons_succ, Nat.reduceAdd]
  rw [v1, v2]
  clear v1 v2
  clear hΦ
  clear hl hw
  clear e1
  obtain ⟨s8, a8, n8, c8, b8, _⟩ := S.at 0 (g8) (IsI 0 0) rfl; have F1 := b8.c0; have F2 := b8.c1; have F3 := b8.f0; have F4 := b8.f1
  refine wpList_step fun K hK => ?_; go_simp; refine hK _ _ ?_; clear hK K
  clear F1 F2 F3 F4 b8
  obtain ⟨W3, hW, S2, G2, _⟩ := S.put 0 (g8) (IsI 0 0) (IsI 12 za) rfl s20 a20 n20 c20 (IsI.gstb _ _) ⟨_, _, _, _, rfl, h20⟩
  rw [← hW]; clear hW S
  have S : St w W3 [(g8, IsI 12 za), (w.heap.size + 1 + 1, IsR s3 x3), (w.heap.size + 1, IsR s2 x2), (w.heap.size, IsR s1 x1)] := S2; clear S2 G2
  clear h20
  refine wpList_nil ?_
  go_upto_region 5 with (fail)
  have hl := hid S.lt; have hw := S.ext.size
  refine wp_region_rgs 3 [some 21, some 22, some 9] [IsR s2 x2, IsI 12 zb, IsB W3] [2] (by decide) (by kernel_rfl) (by kernel_rfl) (by kernel_rfl) ?_ ?_ ?_ ?_
  · repeat' (first | exact trivial | exact IsV.stb _ | exact IsI.stb _ _ | exact IsB.stb _ | exact IsR.stb _ _ | exact IsRow5.stb | apply And.intro)
  · intro i hi; simp only [List.mem_cons, List.not_mem_nil, or_false] at hi; subst hi; exact IsB.box _
  · refine RgAll.cons (by { (with_reducible refine RgL.mk (by rfl) ?_); intro v a w' hE hd hf; have ev0 := hf.lit 4 (.pointer (some ⟨w.heap.size + 1, 0, none⟩)) (by kernel_rfl) (by kernel_rfl); obtain ⟨s8, a8, n8, c8, b8, h8⟩ := (S.mono hE).at 2 (w.heap.size + 1) (IsR s2 x2) rfl; have L0 := b8.c0; have L1 := b8.c1; clear hd hf; intro K hK; go_simp; exact hK.out _ _ (Ext.refl _) h8 (FreshIf.no rfl) }) ?_
    refine RgAll.cons (by { (with_reducible refine RgL.mk (by rfl) ?_); intro v a w' hE hd hf; have d0 : (IsR s2 x2) (v 0) w' := hd 0 (by kernel_rfl); have ev0 := hf.val 0 21 _ rfl (by kernel_rfl) (by kernel_rfl) (by kernel_rfl); clear hd hf; intro K hK; go_simp; go_at_call 10; go_split_ands; (with_reducible refine Calls.mono (Calls.mono (Made_f d0 (by decide)) fun _ _ h => h.eqz Hb.out) ?_); rintro e w2 ⟨x, rfl, e2, hx⟩; exact hK.out _ _ e2 hx (FreshIf.no rfl) }) ?_
    refine RgAll.cons (by { (with_reducible refine RgL.mk (by rfl) ?_); intro v a w' hE hd hf; skip; clear hd hf; intro K hK; go_simp; refine hK.out _ _ ((Ext.refl _).alloc _) ⟨_, rfl, hE.size, Bx.new _ _ _ _ _⟩ FreshIf.yes }) ?_
    exact RgAll.nil
  intro v W4 e1 hΦ _
  replace S := S.mono e1
  obtain ⟨s22, a22, n22, c22, v1, h22⟩ := (hΦ 1 (by decide) : IsI 12 zb (v 1) W4)
  obtain ⟨g9, v2, q4, b3⟩ := (hΦ 2 (by decide) : IsB W3 (v 2) W4)
  replace S := S.addN (Apart.old hl.out q4) (Nat.le_trans hw q4) b3
  clear b3
  simp only [layL, Act.put, List.setIfInBounds_toArray, List.set_cons_zero, List.set_cons_succ, Nat.reduceAdd]
  rw [v1, v2]
  clear v1 v2
  clear hΦ
  clear hl hw
  clear e1
  obtain ⟨s8, a8, n8, c8, b8, _⟩ := S.at 0 (g9) (IsI 0 0) rfl; have F1 := b8.c0; have F2 := b8.c1; have F3 := b8.f0; have F4 := b8.f1
  refine wpList_step fun K hK => ?_; go_simp; refine hK _ _ ?_; clear hK K
  clear F1 F2 F3 F4 b8
  obtain ⟨W5, hW, S2, G2, _⟩ := S.put 0 (g9) (IsI 0 0) (IsI 12 zb) rfl s22 a22 n22 c22 (IsI.gstb _ _) ⟨_, _, _, _, rfl, h22⟩
  rw [← hW]; clear hW S
  have S : St w W5 [(g9, IsI 12 zb), (g8, IsI 12 za), (w.heap.size + 1 + 1, IsR s3 x3), (w.heap.size + 1, IsR s2 x2), (w.heap.size, IsR s1 x1)] := S2; clear S2 G2
  clear h22
  refine wpList_nil ?_
  go_upto_region 6 with (fail)
  have hl := hid S.lt; have hw := S.ext.size
  refine wp_region_rgs 3 [some 23, some 24, some 10] [IsR s3 x3, IsI 12 zc, IsB W5] [2] (by decide) (by kernel_rfl) (by kernel_rfl) (by kernel_rfl) ?_ ?_ ?_ ?_
  · repeat' (first | exact trivial | exact IsV.stb _ | exact IsI.stb _ _ | exact IsB.stb _ | exact IsR.stb _ _ | exact IsRow5.stb | apply And.intro)
  · intro i hi; simp only [List.mem_cons, List.not_mem_nil, or_false] at hi; subst hi; exact IsB.box _
  · refine RgAll.cons (by { (with_reducible refine RgL.mk (by rfl) ?_); intro v a w' hE hd hf; have ev0 := hf.lit 5 (.pointer (some ⟨w.heap.size + 1 + 1, 0, none⟩)) (by kernel_rfl) (by kernel_rfl); obtain ⟨s8, a8, n8, c8, b8, h8⟩ := (S.mono hE).at 2 (w.heap.size + 1 + 1) (IsR s3 x3) rfl; have L0 := b8.c0; have L1 := b8.c1; clear hd hf; intro K hK; go_simp; exact hK.out _ _ (Ext.refl _) h8 (FreshIf.no rfl) }) ?_
    refine RgAll.cons (by { (with_reducible refine RgL.mk (by rfl) ?_); intro v a w' hE hd hf; have d0 : (IsR s3 x3) (v 0) w' := hd 0 (by kernel_rfl); have ev0 := hf.val 0 23 _ rfl (by kernel_rfl) (by kernel_rfl) (by kernel_rfl); clear hd hf; intro K hK; go_simp; go_at_call 10; go_split_ands; (with_reducible refine Calls.mono (Calls.mono (Made_f d0 (by decide)) fun _ _ h => h.eqz Hc.out) ?_); rintro e w2 ⟨x, rfl, e2, hx⟩; exact hK.out _ _ e2 hx (FreshIf.no rfl) }) ?_
    refine RgAll.cons (by { (with_reducible refine RgL.mk (by rfl) ?_); intro v a w' hE hd hf; skip; clear hd hf; intro K hK; go_simp; refine hK.out _ _ ((Ext.refl _).alloc _) ⟨_, rfl, hE.size, Bx.new _ _ _ _ _⟩ FreshIf.yes }) ?_
    exact RgAll.nil
  intro v W6 e1 hΦ _
  replace S := S.mono e1
  obtain ⟨s24, a24, n24, c24, v1, h24⟩ := (hΦ 1 (by decide) : IsI 12 zc (v 1) W6)
  obtain ⟨g10, v2, q6, b5⟩ := (hΦ 2 (by decide) : IsB W5 (v 2) W6)
  replace S := S.addN (Apart.old hl.out q6) (Nat.le_trans hw q6) b5
  clear b5
  simp only [layL, Act.put, List.setIfInBounds_toArray, List.set_cons_zero, List.set_cons_succ, Nat.reduceAdd]
  rw [v1, v2]
  clear v1 v2
  clear hΦ
  clear hl hw
  clear e1
  obtain ⟨s8, a8, n8, c8, b8, _⟩ := S.at 0 (g10) (IsI 0 0) rfl; have F1 := b8.c0; have F2 := b8.c1; have F3 := b8.f0; have F4 := b8.f1
  refine wpList_step fun K hK => ?_; go_simp; refine hK _ _ ?_; clear hK K
  clear F1 F2 F3 F4 b8
  obtain ⟨W7, hW, S2, G2, _⟩ := S.put 0 (g10) (IsI 0 0) (IsI 12 zc) rfl s24 a24 n24 c24 (IsI.gstb _ _) ⟨_, _, _, _, rfl, h24⟩
  rw [← hW]; clear hW S
  have S : St w W7 [(g10, IsI 12 zc), (g9, IsI 12 zb), (g8, IsI 12 za), (w.heap.size + 1 + 1, IsR s3 x3), (w.heap.size + 1, IsR s2 x2), (w.heap.size, IsR s1 x1)] := S2; clear S2 G2
  clear h24
  refine wpList_nil ?_
  go_upto_region 7 with (fail)
  have hl := hid S.lt; have hw := S.ext.size
  refine wp_region_rgs 4 [some 25, some 26, some 27, some 11] [IsI 12 za, IsI 12 zb, IsI 13 (za + zb), IsB W7] [3] (by decide) (by kernel_rfl) (by kernel_rfl) (by kernel_rfl) ?_ ?_ ?_ ?_
  · repeat' (first | exact trivial | exact IsV.stb _ | exact IsI.stb _ _ | exact IsB.stb _ | exact IsR.stb _ _ | exact IsRow5.stb | apply And.intro)
  · intro i hi; simp only [List.mem_cons, List.not_mem_nil, or_false] at hi; subst hi; exact IsB.box _
  · refine RgAll.cons (by { (with_reducible refine RgL.mk (by rfl) ?_); intro v a w' hE hd hf; have ev0 := hf.lit 8 (.pointer (some ⟨g8, 0, none⟩)) (by kernel_rfl) (by kernel_rfl); obtain ⟨s8, a8, n8, c8, b8, h8⟩ := (S.mono hE).at 2 (g8) (IsI 12 za) rfl; have L0 := b8.c0; have L1 := b8.c1; clear hd hf; intro K hK; go_simp; exact hK.out _ _ (Ext.refl _) h8 (FreshIf.no rfl) }) ?_
    refine RgAll.cons (by { (with_reducible refine RgL.mk (by rfl) ?_); intro v a w' hE hd hf; have ev0 := hf.lit 9 (.pointer (some ⟨g9, 0, none⟩)) (by kernel_rfl) (by kernel_rfl); obtain ⟨s8, a8, n8, c8, b8, h8⟩ := (S.mono hE).at 1 (g9) (IsI 12 zb) rfl; have L0 := b8.c0; have L1 := b8.c1; clear hd hf; intro K hK; go_simp; exact hK.out _ _ (Ext.refl _) h8 (FreshIf.no rfl) }) ?_
    refine RgAll.cons (by { (with_reducible refine RgL.mk (by rfl) ?_); intro v a w' hE hd hf; have d0 : (IsI 12 za) (v 0) w' := hd 0 (by kernel_rfl); have ev0 := hf.val 0 25 _ rfl (by kernel_rfl) (by kernel_rfl) (by kernel_rfl); have d1 : (IsI 12 zb) (v 1) w' := hd 1 (by kernel_rfl); have ev1 := hf.val 1 26 _ rfl (by kernel_rfl) (by kernel_rfl) (by kernel_rfl); clear hd hf; intro K hK; go_simp; go_at_call 12; go_split_ands; (with_reducible refine Calls.mono (Add_f d0 d1 (by decide) (by decide)) ?_); rintro e w2 ⟨x, rfl, e2, hx⟩; exact hK.out _ _ e2 hx (FreshIf.no rfl) }) ?_
    refine RgAll.cons (by { (with_reducible refine RgL.mk (by rfl) ?_); intro v a w' hE hd hf; skip; clear hd hf; intro K hK; go_simp; refine hK.out _ _ ((Ext.refl _).alloc _) ⟨_, rfl, hE.size, Bx.new _ _ _ _ _⟩ FreshIf.yes }) ?_
    exact RgAll.nil
  intro v W8 e1 hΦ _
  replace S := S.mono e1
  obtain ⟨s27, a27, n27, c27, v2, h27⟩ := (hΦ 2 (by decide) : IsI 13 (za + zb) (v 2) W8)
  obtain ⟨g11, v3, q8, b7⟩ := (hΦ 3 (by decide) : IsB W7 (v 3) W8)
  replace S := S.addN (Apart.old hl.out q8) (Nat.le_trans hw q8) b7
  clear b7
  simp only [layL, Act.put, List.setIfInBounds_toArray, List.set_cons_zero, List.set_cons_succ, Nat.reduceAdd]
  rw [v2, v3]
  clear v2 v3
  clear hΦ
  clear hl hw
  clear e1
  obtain ⟨s8, a8, n8, c8, b8, _⟩ := S.at 0 (g11) (IsI 0 0) rfl; have F1 := b8.c0; have F2 := b8.c1; have F3 := b8.f0; have F4 := b8.f1
  refine wpList_step fun K hK => ?_; go_simp; refine hK _ _ ?_; clear hK K
  clear F1 F2 F3 F4 b8
  obtain ⟨W9, hW, S2, G2, _⟩ := S.put 0 (g11) (IsI 0 0) (IsI 13 (za + zb)) rfl s27 a27 n27 c27 (IsI.gstb _ _) ⟨_, _, _, _, rfl, h27⟩
  rw [← hW]; clear hW S
  have S : St w W9 [(g11, IsI 13 (za + zb)), (g10, IsI 12 zc), (g9, IsI 12 zb), (g8, IsI 12 za), (w.heap.size + 1 + 1, IsR s3 x3), (w.heap.size + 1, IsR s2 x2), (w.heap.size, IsR s1 x1)] := S2; clear S2 G2
  clear h27
  refine wpList_nil ?_
  go_upto_region 8 with (fail)
  have hl := hid S.lt; have hw := S.ext.size
  refine wp_region_rgs 4 [some 28, some 29, some 30, some 12] [IsI 12 za, IsI 12 zb, IsI 24 (za * zb), IsB W9] [3] (by decide) (by kernel_rfl) (by kernel_rfl) (by kernel_rfl) ?_ ?_ ?_ ?_
  · repeat' (first | exact trivial | exact IsV.stb _ | exact IsI.stb _ _ | exact IsB.stb _ | exact IsR.stb _ _ | exact IsRow5.stb | apply And.intro)
  · intro i hi; simp only [List.mem_cons, List.not_mem_nil, or_false] at hi; subst hi; exact IsB.box _
  · refine RgAll.cons (by { (with_reducible refine RgL.mk (by rfl) ?_); intro v a w' hE hd hf; have ev0 := hf.lit 8 (.pointer (some ⟨g8, 0, none⟩)) (by kernel_rfl) (by kernel_rfl); obtain ⟨s8, a8, n8, c8, b8, h8⟩ := (S.mono hE).at 3 (g8) (IsI 12 za) rfl; have L0 := b8.c0; have L1 := b8.c1; clear hd hf; intro K hK; go_simp; exact hK.out _ _ (Ext.refl _) h8 (FreshIf.no rfl) }) ?_
    refine RgAll.cons (by { (with_reducible refine RgL.mk (by rfl) ?_); intro v a w' hE hd hf; have ev0 := hf.lit 9 (.pointer (some ⟨g9, 0, none⟩)) (by kernel_rfl) (by kernel_rfl); obtain ⟨s8, a8, n8, c8, b8, h8⟩ := (S.mono hE).at 2 (g9) (IsI 12 zb) rfl; have L0 := b8.c0; have L1 := b8.c1; clear hd hf; intro K hK; go_simp; exact hK.out _ _ (Ext.refl _) h8 (FreshIf.no rfl) }) ?_
    refine RgAll.cons (by { (with_reducible refine RgL.mk (by rfl) ?_); intro v a w' hE hd hf; have d0 : (IsI 12 za) (v 0) w' := hd 0 (by kernel_rfl); have ev0 := hf.val 0 28 _ rfl (by kernel_rfl) (by kernel_rfl) (by kernel_rfl); have d1 : (IsI 12 zb) (v 1) w' := hd 1 (by kernel_rfl); have ev1 := hf.val 1 29 _ rfl (by kernel_rfl) (by kernel_rfl) (by kernel_rfl); clear hd hf; intro K hK; go_simp; go_at_call 13; go_split_ands; (with_reducible refine Calls.mono (Mul_f d0 d1 (by decide) (by decide)) ?_); rintro e w2 ⟨x, rfl, e2, hx⟩; exact hK.out _ _ e2 hx (FreshIf.no rfl) }) ?_
    refine RgAll.cons (by { (with_reducible refine RgL.mk (by rfl) ?_); intro v a w' hE hd hf; skip; clear hd hf; intro K hK; go_simp; refine hK.out _ _ ((Ext.refl _).alloc _) ⟨_, rfl, hE.size, Bx.new _ _ _ _ _⟩ FreshIf.yes }) ?_
    exact RgAll.nil
  intro v W10 e1 hΦ _
  replace S := S.mono e1
  obtain ⟨s30, a30, n30, c30, v2, h30⟩ := (hΦ 2 (by decide) : IsI 24 (za * zb) (v 2) W10)
  obtain ⟨g12, v3, q10, b9⟩ := (hΦ 3 (by decide) : IsB W9 (v 3) W10)
  replace S := S.addN (Apart.old hl.out q10) (Nat.le_trans hw q10) b9
  clear b9
  simp only [layL, Act.put, List.setIfInBounds_toArray, List.set_cons_zero, List.set_cons_succ, Nat.reduceAdd]
  rw [v2, v3]
  clear v2 v3
  clear hΦ
  clear hl hw
  clear e1
  obtain ⟨s8, a8, n8, c8, b8, _⟩ := S.at 0 (g12) (IsI 0 0) rfl; have F1 := b8.c0; have F2 := b8.c1; have F3 := b8.f0; have F4 := b8.f1
  refine wpList_step fun K hK => ?_; go_simp; refine hK _ _ ?_; clear hK K
  clear F1 F2 F3 F4 b8
  obtain ⟨W11, hW, S2, G2, _⟩ := S.put 0 (g12) (IsI 0 0) (IsI 24 (za * zb)) rfl s30 a30 n30 c30 (IsI.gstb _ _) ⟨_, _, _, _, rfl, h30⟩
  rw [← hW]; clear hW S
  have S : St w W11 [(g12, IsI 24 (za * zb)), (g11, IsI 13 (za + zb)), (g10, IsI 12 zc), (g9, IsI 12 zb), (g8, IsI 12 za), (w.heap.size + 1 + 1, IsR s3 x3), (w.heap.size + 1, IsR s2 x2), (w.heap.size, IsR s1 x1)] := S2; clear S2 G2
  clear h30
  refine wpList_nil ?_
  go_upto_region 9 with (fail)
  refine wp_region_rg 11 [some 31, some 32, some 33, some 34, some 35, some 36, some 37, some 38, some 39, some 40, some 13] [IsI 13 (za + zb), IsI 24 (za * zb), IsI 12 za, IsI 12 zb, IsI 13 (za - zb), IsI 12 za, IsI 12 (-za), IsI 12 za, IsI 12 za.natAbs, IsRow5, IsRow5] [] 0 (by kernel_rfl) (by decide) (by kernel_rfl) (by kernel_rfl) (by kernel_rfl) (by kernel_rfl) (by kernel_rfl) ?_ ?_ ?_ ?_
  · repeat' (first | exact trivial | exact IsV.stb _ | exact IsI.stb _ _ | exact IsB.stb _ | exact IsR.stb _ _ | exact IsRow5.stb | apply And.intro)
  · exact (fun _ h => by cases h)
  · refine RgAll.cons (by { (with_reducible refine RgL.mk (by rfl) ?_); intro v a w' hE hd hf; have ev0 := hf.lit 11 (.pointer (some ⟨g11, 0, none⟩)) (by kernel_rfl) (by kernel_rfl); obtain ⟨s8, a8, n8, c8, b8, h8⟩ := (S.mono hE).at 1 (g11) (IsI 13 (za + zb)) rfl; have L0 := b8.c0; have L1 := b8.c1; clear hd hf; intro K hK; go_simp; exact hK.out _ _ (Ext.refl _) h8 (FreshIf.no rfl) }) ?_
    refine RgAll.cons (by { (with_reducible refine RgL.mk (by rfl) ?_); intro v a w' hE hd hf; have ev0 := hf.lit 12 (.pointer (some ⟨g12, 0, none⟩)) (by kernel_rfl) (by kernel_rfl); obtain ⟨s8, a8, n8, c8, b8, h8⟩ := (S.mono hE).at 0 (g12) (IsI 24 (za * zb)) rfl; have L0 := b8.c0; have L1 := b8.c1; clear hd hf; intro K hK; go_simp; exact hK.out _ _ (Ext.refl _) h8 (FreshIf.no rfl) }) ?_
    refine RgAll.cons (by { (with_reducible refine RgL.mk (by rfl) ?_); intro v a w' hE hd hf; have ev0 := hf.lit 8 (.pointer (some ⟨g8, 0, none⟩)) (by kernel_rfl) (by kernel_rfl); obtain ⟨s8, a8, n8, c8, b8, h8⟩ := (S.mono hE).at 4 (g8) (IsI 12 za) rfl; have L0 := b8.c0; have L1 := b8.c1; clear hd hf; intro K hK; go_simp; exact hK.out _ _ (Ext.refl _) h8 (FreshIf.no rfl) }) ?_
    refine RgAll.cons (by { (with_reducible refine RgL.mk (by rfl) ?_); intro v a w' hE hd hf; have ev0 := hf.lit 9 (.pointer (some ⟨g9, 0, none⟩)) (by kernel_rfl) (by kernel_rfl); obtain ⟨s8, a8, n8, c8, b8, h8⟩ := (S.mono hE).at 3 (g9) (IsI 12 zb) rfl; have L0 := b8.c0; have L1 := b8.c1; clear hd hf; intro K hK; go_simp; exact hK.out _ _ (Ext.refl _) h8 (FreshIf.no rfl) }) ?_
    refine RgAll.cons (by { (with_reducible refine RgL.mk (by rfl) ?_); intro v a w' hE hd hf; have d0 : (IsI 12 za) (v 2) w' := hd 2 (by kernel_rfl); have ev0 := hf.val 2 33 _ rfl (by kernel_rfl) (by kernel_rfl) (by kernel_rfl); have d1 : (IsI 12 zb) (v 3) w' := hd 3 (by kernel_rfl); have ev1 := hf.val 3 34 _ rfl (by kernel_rfl) (by kernel_rfl) (by kernel_rfl); clear hd hf; intro K hK; go_simp; go_at_call 22; go_split_ands; (with_reducible refine Calls.mono (Sub_f d0 d1 (by decide) (by decide)) ?_); rintro e w2 ⟨x, rfl, e2, hx⟩; exact hK.out _ _ e2 hx (FreshIf.no rfl) }) ?_
    refine RgAll.cons (by { (with_reducible refine RgL.mk (by rfl) ?_); intro v a w' hE hd hf; have ev0 := hf.lit 8 (.pointer (some ⟨g8, 0, none⟩)) (by kernel_rfl) (by kernel_rfl); obtain ⟨s8, a8, n8, c8, b8, h8⟩ := (S.mono hE).at 4 (g8) (IsI 12 za) rfl; have L0 := b8.c0; have L1 := b8.c1; clear hd hf; intro K hK; go_simp; exact hK.out _ _ (Ext.refl _) h8 (FreshIf.no rfl) }) ?_
    refine RgAll.cons (by { (with_reducible refine RgL.mk (by rfl) ?_); intro v a w' hE hd hf; have d0 : (IsI 12 za) (v 5) w' := hd 5 (by kernel_rfl); have ev0 := hf.val 5 36 _ rfl (by kernel_rfl) (by kernel_rfl) (by kernel_rfl); clear hd hf; intro K hK; go_simp; go_at_call 29; go_split_ands; (with_reducible refine Calls.mono (Neg_f d0) ?_); rintro e w2 ⟨x, rfl, e2, hx⟩; exact hK.out _ _ e2 hx (FreshIf.no rfl) }) ?_
    refine RgAll.cons (by { (with_reducible refine RgL.mk (by rfl) ?_); intro v a w' hE hd hf; have ev0 := hf.lit 8 (.pointer (some ⟨g8, 0, none⟩)) (by kernel_rfl) (by kernel_rfl); obtain ⟨s8, a8, n8, c8, b8, h8⟩ := (S.mono hE).at 4 (g8) (IsI 12 za) rfl; have L0 := b8.c0; have L1 := b8.c1; clear hd hf; intro K hK; go_simp; exact hK.out _ _ (Ext.refl _) h8 (FreshIf.no rfl) }) ?_
    refine RgAll.cons (by { (with_reducible refine RgL.mk (by rfl) ?_); intro v a w' hE hd hf; have d0 : (IsI 12 za) (v 7) w' := hd 7 (by kernel_rfl); have ev0 := hf.val 7 38 _ rfl (by kernel_rfl) (by kernel_rfl) (by kernel_rfl); clear hd hf; intro K hK; go_simp; go_at_call 17; go_split_ands; (with_reducible refine Calls.mono (Abs_f d0) ?_); rintro e w2 ⟨x, rfl, e2, hx⟩; exact hK.out _ _ e2 hx (FreshIf.no rfl) }) ?_
    refine RgAll.cons (by { (with_reducible refine RgL.mk (by rfl) ?_); intro v a w' hE hd hf; have d0 : IsI 13 (za + zb) (v 0) w' := hd 0 (by kernel_rfl); obtain ⟨s0', a0', n0', c0', z0', h0'⟩ := d0; have ev0 := hf.val 0 31 _ z0' (by kernel_rfl) (by kernel_rfl) (by kernel_rfl); clear z0'; have d1 : IsI 24 (za * zb) (v 1) w' := hd 1 (by kernel_rfl); obtain ⟨s1', a1', n1', c1', z1', h1'⟩ := d1; have ev1 := hf.val 1 32 _ z1' (by kernel_rfl) (by kernel_rfl) (by kernel_rfl); clear z1'; have d2 : IsI 13 (za - zb) (v 4) w' := hd 4 (by kernel_rfl); obtain ⟨s2', a2', n2', c2', z2', h2'⟩ := d2; have ev2 := hf.val 4 35 _ z2' (by kernel_rfl) (by kernel_rfl) (by kernel_rfl); clear z2'; have d3 : IsI 12 (-za) (v 6) w' := hd 6 (by kernel_rfl); obtain ⟨s3', a3', n3', c3', z3', h3'⟩ := d3; have ev3 := hf.val 6 37 _ z3' (by kernel_rfl) (by kernel_rfl) (by kernel_rfl); clear z3'; have d4 : IsI 12 ((za.natAbs)) (v 8) w' := hd 8 (by kernel_rfl); obtain ⟨s4', a4', n4', c4', z4', h4'⟩ := d4; have ev4 := hf.val 8 39 _ z4' (by kernel_rfl) (by kernel_rfl) (by kernel_rfl); clear z4'; clear hd hf; intro K hK; go_simp; exact hK.out _ _ ((Ext.refl _).alloc _) (IsRow5.mk _ h0' h1' h2' h3' h4' (by decide) (by decide) (by decide) (by decide) (by decide)) (FreshIf.no rfl) }) ?_
    refine RgAll.cons (by { (with_reducible refine RgL.mk (by rfl) ?_); intro v a w' hE hd hf; have d0 : IsRow5 (v 9) w' := hd 9 (by kernel_rfl); have ev0 := hf.val 9 40 _ rfl (by kernel_rfl) (by kernel_rfl) (by kernel_rfl); clear hd hf; intro K hK; go_simp; exact hK.out _ _ (Ext.refl _) d0 (FreshIf.no rfl) }) ?_
    exact RgAll.nil
  intro v W12 e1 hΦ _
  replace S := S.mono e1
  obtain ⟨g13, v10, hrow⟩ := (hΦ 10 (by decide) : IsRow5 (v 10) W12)
  simp only [layL, Act.put, List.setIfInBounds_toArray, List.set_cons_zero, List.set_cons_succ, Nat.reduceAdd]
  rw [v10]
  clear v10
  clear hΦ
  clear e1
  refine wpAny_done (by kernel_rfl) ?_ _
  go_wp2_with fail
  have I0 := hid (And.intro S hrow)
  clear S hrow
  go_loopg [14] 5 (fun gk v14 wr => ∃ i : Nat, v14 = .int .i64 (i : Int) ∧ i + gk = 5 ∧ Hid (St w wr [(g12, IsI 24 (za * zb)), (g11, IsI 13 (za + zb)), (g10, IsI 12 zc), (g9, IsI 12 zb), (g8, IsI 12 za), (w.heap.size + 1 + 1, IsR s3 x3), (w.heap.size + 1, IsR s2 x2), (w.heap.size, IsR s1 x1)] ∧ Row5 g13 wr))
  case atStart => exact ⟨0, rfl, rfl, I0⟩
  case round =>
    clear I0
    obtain ⟨i, rfl, hi, H⟩ := hrel
    obtain ⟨S, hrow⟩ := H.out
    clear H
    by_cases h0 : gk = 0
    · obtain rfl : i = 5 := by omega
      subst h0
      clear hi hrow
      go_upto_region 15 with (fail)
      refine wp_region_rg 38 [some 61, some 62, some 63, some 64, some 65, some 66, some 67, some 68, some 69, some 70, some 71, some 72, some 73, some 74, some 75, some 76, some 77, some 78, some 79, some 80, some 81, some 82, some 83, some 84, some 85, some 86, some 87, some 88, some 89, some 90, some 91, some 92, some 93, some 94, some 95, some 96, some 97, some 98] [IsI 13 (za + zb), IsI 12 zb, IsI 12 za, IsI 13 (zb + za), IsV (.bool true), IsV (.bool false), IsV (.bool false), IsI 24 (za * zb), IsI 12 zb, IsI 12 za, IsI 24 (zb * za), IsV (.bool true), IsV (.bool false), IsV (.bool false), IsV (.bool false), IsI 13 (za + zb), IsI 12 zc, IsI 14 ((za + zb) + zc), IsI 12 za, IsI 12 zb, IsI 12 zc, IsI 13 (zb + zc), IsI 14 (za + (zb + zc)), IsV (.bool true), IsV (.bool false), IsV (.bool false), IsV (.bool false), IsI 24 (za * zb), IsI 12 zc, IsI 36 ((za * zb) * zc), IsI 12 za, IsI 12 zb, IsI 12 zc, IsI 24 (zb * zc), IsI 36 (za * (zb * zc)), IsV (.bool true), IsV (.bool false), IsV (.bool false)] [] 0 (by kernel_rfl) (by decide) (by kernel_rfl) (by kernel_rfl) (by kernel_rfl) (by kernel_rfl) (by kernel_rfl) ?_ ?_ ?_ ?_
      · repeat' (first | exact trivial | exact IsV.stb _ | exact IsI.stb _ _ | exact IsB.stb _ | exact IsR.stb _ _ | exact IsMag.stb _ _ | exact IsPos.stb | apply IsT3.stb | apply IsT2.stb | apply And.intro)
      · exact (fun _ h => by cases h)
      · refine RgAll.cons (by { (with_reducible refine RgL.mk (by rfl) ?_); intro v a w' hE hd hf; have ev0 := hf.lit 11 (.pointer (some ⟨g11, 0, none⟩)) (by kernel_rfl) (by kernel_rfl); obtain ⟨s8, a8, n8, c8, b8, h8⟩ := (S.mono hE).at 1 (g11) (IsI 13 (za + zb)) rfl; have L0 := b8.c0; have L1 := b8.c1; clear hd hf; intro K hK; go_simp; exact hK.out _ _ (Ext.refl _) h8 (FreshIf.no rfl) }) ?_
        refine RgAll.cons (by { (with_reducible refine RgL.mk (by rfl) ?_); intro v a w' hE hd hf; have ev0 := hf.lit 9 (.pointer (some ⟨g9, 0, none⟩)) (by kernel_rfl) (by kernel_rfl); obtain ⟨s8, a8, n8, c8, b8, h8⟩ := (S.mono hE).at 3 (g9) (IsI 12 zb) rfl; have L0 := b8.c0; have L1 := b8.c1; clear hd hf; intro K hK; go_simp; exact hK.out _ _ (Ext.refl _) h8 (FreshIf.no rfl) }) ?_
        refine RgAll.cons (by { (with_reducible refine RgL.mk (by rfl) ?_); intro v a w' hE hd hf; have ev0 := hf.lit 8 (.pointer (some ⟨g8, 0, none⟩)) (by kernel_rfl) (by kernel_rfl); obtain ⟨s8, a8, n8, c8, b8, h8⟩ := (S.mono hE).at 4 (g8) (IsI 12 za) rfl; have L0 := b8.c0; have L1 := b8.c1; clear hd hf; intro K hK; go_simp; exact hK.out _ _ (Ext.refl _) h8 (FreshIf.no rfl) }) ?_
        refine RgAll.cons (by { (with_reducible refine RgL.mk (by rfl) ?_); intro v a w' hE hd hf; have d0 : (IsI 12 zb) (v 1) w' := hd 1 (by kernel_rfl); have ev0 := hf.val 1 62 _ rfl (by kernel_rfl) (by kernel_rfl) (by kernel_rfl); have d1 : (IsI 12 za) (v 2) w' := hd 2 (by kernel_rfl); have ev1 := hf.val 2 63 _ rfl (by kernel_rfl) (by kernel_rfl) (by kernel_rfl); clear hd hf; intro K hK; go_simp; go_at_call 12; go_split_ands; (with_reducible refine Calls.mono (Add_f d0 d1 (by decide) (by decide)) ?_); rintro e w2 ⟨x, rfl, e2, hx⟩; exact hK.out _ _ e2 hx (FreshIf.no rfl) }) ?_
        refine RgAll.cons (by { (with_reducible refine RgL.mk (by rfl) ?_); intro v a w' hE hd hf; have d0 : (IsI 13 (za + zb)) (v 0) w' := hd 0 (by kernel_rfl); have ev0 := hf.val 0 61 _ rfl (by kernel_rfl) (by kernel_rfl) (by kernel_rfl); have d1 : (IsI 13 (zb + za)) (v 3) w' := hd 3 (by kernel_rfl); have ev1 := hf.val 3 64 _ rfl (by kernel_rfl) (by kernel_rfl) (by kernel_rfl); clear hd hf; intro K hK; go_simp; go_at_call 14; go_split_ands; (with_reducible refine Calls.mono (Same_t d0 d1 (Int.add_comm za zb) (by decide)) ?_); rintro e w2 ⟨x, rfl, e2, hx⟩; exact hK.out _ _ e2 hx (FreshIf.no rfl) }) ?_
        refine RgAll.cons (by { (with_reducible refine RgL.mk (by rfl) ?_); intro v a w' hE hd hf; have d0 : v 4 = .bool true := hd 4 (by kernel_rfl); have ev0 := hf.val 4 65 _ d0 (by kernel_rfl) (by kernel_rfl) (by kernel_rfl); clear d0; clear hd hf; intro K hK; go_simp; exact hK.out _ _ (Ext.refl _) rfl (FreshIf.no rfl) }) ?_
        refine RgAll.cons (by { (with_reducible refine RgL.mk (by rfl) ?_); intro v a w' hE hd hf; have d0 : v 5 = .bool false := hd 5 (by kernel_rfl); have ev0 := hf.val 5 66 _ d0 (by kernel_rfl) (by kernel_rfl) (by kernel_rfl); clear d0; clear hd hf; intro K hK; go_simp; exact hK.out _ _ (Ext.refl _) rfl (FreshIf.no rfl) }) ?_
        refine RgAll.cons (by { (with_reducible refine RgL.mkG 6 67 false (by rfl) (by kernel_rfl) (by kernel_rfl) (by kernel_rfl) (by kernel_rfl) (by kernel_rfl) ?_ ?_); (focus (intro _ _ h; exact h)); intro v a w' hE hd hf; have ev0 := hf.lit 12 (.pointer (some ⟨g12, 0, none⟩)) (by kernel_rfl) (by kernel_rfl); obtain ⟨s8, a8, n8, c8, b8, h8⟩ := (S.mono hE).at 0 (g12) (IsI 24 (za * zb)) rfl; have L0 := b8.c0; have L1 := b8.c1; clear hd hf; intro K hK; go_simp; exact hK.out _ _ (Ext.refl _) h8 (FreshIf.no rfl) }) ?_
        refine RgAll.cons (by { (with_reducible refine RgL.mkG 6 67 false (by rfl) (by kernel_rfl) (by kernel_rfl) (by kernel_rfl) (by kernel_rfl) (by kernel_rfl) ?_ ?_); (focus (intro _ _ h; exact h)); intro v a w' hE hd hf; have ev0 := hf.lit 9 (.pointer (some ⟨g9, 0, none⟩)) (by kernel_rfl) (by kernel_rfl); obtain ⟨s8, a8, n8, c8, b8, h8⟩ := (S.mono hE).at 3 (g9) (IsI 12 zb) rfl; have L0 := b8.c0; have L1 := b8.c1; clear hd hf; intro K hK; go_simp; exact hK.out _ _ (Ext.refl _) h8 (FreshIf.no rfl) }) ?_
        refine RgAll.cons (by { (with_reducible refine RgL.mkG 6 67 false (by rfl) (by kernel_rfl) (by kernel_rfl) (by kernel_rfl) (by kernel_rfl) (by kernel_rfl) ?_ ?_); (focus (intro _ _ h; exact h)); intro v a w' hE hd hf; have ev0 := hf.lit 8 (.pointer (some ⟨g8, 0, none⟩)) (by kernel_rfl) (by kernel_rfl); obtain ⟨s8, a8, n8, c8, b8, h8⟩ := (S.mono hE).at 4 (g8) (IsI 12 za) rfl; have L0 := b8.c0; have L1 := b8.c1; clear hd hf; intro K hK; go_simp; exact hK.out _ _ (Ext.refl _) h8 (FreshIf.no rfl) }) ?_
        refine RgAll.cons (by { (with_reducible refine RgL.mkG 6 67 false (by rfl) (by kernel_rfl) (by kernel_rfl) (by kernel_rfl) (by kernel_rfl) (by kernel_rfl) ?_ ?_); (focus (intro _ _ h; exact h)); intro v a w' hE hd hf; have d0 : (IsI 12 zb) (v 8) w' := hd 8 (by kernel_rfl); have ev0 := hf.val 8 69 _ rfl (by kernel_rfl) (by kernel_rfl) (by kernel_rfl); have d1 : (IsI 12 za) (v 9) w' := hd 9 (by kernel_rfl); have ev1 := hf.val 9 70 _ rfl (by kernel_rfl) (by kernel_rfl) (by kernel_rfl); clear hd hf; intro K hK; go_simp; go_at_call 13; go_split_ands; (with_reducible refine Calls.mono (Mul_f d0 d1 (by decide) (by decide)) ?_); rintro e w2 ⟨x, rfl, e2, hx⟩; exact hK.out _ _ e2 hx (FreshIf.no rfl) }) ?_
        refine RgAll.cons (by { (with_reducible refine RgL.mkG 6 67 false (by rfl) (by kernel_rfl) (by kernel_rfl) (by kernel_rfl) (by kernel_rfl) (by kernel_rfl) ?_ ?_); (focus (intro _ _ h; exact h)); intro v a w' hE hd hf; have d0 : (IsI 24 (za * zb)) (v 7) w' := hd 7 (by kernel_rfl); have ev0 := hf.val 7 68 _ rfl (by kernel_rfl) (by kernel_rfl) (by kernel_rfl); have d1 : (IsI 24 (zb * za)) (v 10) w' := hd 10 (by kernel_rfl); have ev1 := hf.val 10 71 _ rfl (by kernel_rfl) (by kernel_rfl) (by kernel_rfl); clear hd hf; intro K hK; go_simp; go_at_call 14; go_split_ands; (with_reducible refine Calls.mono (Same_t d0 d1 (Int.mul_comm za zb) (by decide)) ?_); rintro e w2 ⟨x, rfl, e2, hx⟩; exact hK.out _ _ e2 hx (FreshIf.no rfl) }) ?_
        refine RgAll.cons (by { (with_reducible refine RgL.mkG 6 67 false (by rfl) (by kernel_rfl) (by kernel_rfl) (by kernel_rfl) (by kernel_rfl) (by kernel_rfl) ?_ ?_); (focus (intro _ _ h; exact h)); intro v a w' hE hd hf; have d0 : v 11 = .bool true := hd 11 (by kernel_rfl); have ev0 := hf.val 11 72 _ d0 (by kernel_rfl) (by kernel_rfl) (by kernel_rfl); clear d0; clear hd hf; intro K hK; go_simp; exact hK.out _ _ (Ext.refl _) rfl (FreshIf.no rfl) }) ?_
        refine RgAll.cons (by { (with_reducible refine RgL.mk (by rfl) ?_); intro v a w' hE hd hf; have d0 : v 6 = .bool false := hd 6 (by kernel_rfl); have ev0 := hf.val 6 67 _ d0 (by kernel_rfl) (by kernel_rfl) (by kernel_rfl); clear d0; have d1 : v 12 = .bool false := hd 12 (by kernel_rfl); have ev1 := hf.val 12 73 _ d1 (by kernel_rfl) (by kernel_rfl) (by kernel_rfl); clear d1; clear hd hf; intro K hK; go_simp; exact hK.out _ _ (Ext.refl _) rfl (FreshIf.no rfl) }) ?_
        refine RgAll.cons (by { (with_reducible refine RgL.mk (by rfl) ?_); intro v a w' hE hd hf; have d0 : v 13 = .bool false := hd 13 (by kernel_rfl); have ev0 := hf.val 13 74 _ d0 (by kernel_rfl) (by kernel_rfl) (by kernel_rfl); clear d0; clear hd hf; intro K hK; go_simp; exact hK.out _ _ (Ext.refl _) rfl (FreshIf.no rfl) }) ?_
        refine RgAll.cons (by { (with_reducible refine RgL.mkG 14 75 false (by rfl) (by kernel_rfl) (by kernel_rfl) (by kernel_rfl) (by kernel_rfl) (by kernel_rfl) ?_ ?_); (focus (intro _ _ h; exact h)); intro v a w' hE hd hf; have ev0 := hf.lit 11 (.pointer (some ⟨g11, 0, none⟩)) (by kernel_rfl) (by kernel_rfl); obtain ⟨s8, a8, n8, c8, b8, h8⟩ := (S.mono hE).at 1 (g11) (IsI 13 (za + zb)) rfl; have L0 := b8.c0; have L1 := b8.c1; clear hd hf; intro K hK; go_simp; exact hK.out _ _ (Ext.refl _) h8 (FreshIf.no rfl) }) ?_
        refine RgAll.cons (by { (with_reducible refine RgL.mkG 14 75 false (by rfl) (by kernel_rfl) (by kernel_rfl) (by kernel_rfl) (by kernel_rfl) (by kernel_rfl) ?_ ?_); (focus (intro _ _ h; exact h)); intro v a w' hE hd hf; have ev0 := hf.lit 10 (.pointer (some ⟨g10, 0, none⟩)) (by kernel_rfl) (by kernel_rfl); obtain ⟨s8, a8, n8, c8, b8, h8⟩ := (S.mono hE).at 2 (g10) (IsI 12 zc) rfl; have L0 := b8.c0; have L1 := b8.c1; clear hd hf; intro K hK; go_simp; exact hK.out _ _ (Ext.refl _) h8 (FreshIf.no rfl) }) ?_
        refine RgAll.cons (by { (with_reducible refine RgL.mkG 14 75 false (by rfl) (by kernel_rfl) (by kernel_rfl) (by kernel_rfl) (by kernel_rfl) (by kernel_rfl) ?_ ?_); (focus (intro _ _ h; exact h)); intro v a w' hE hd hf; have d0 : (IsI 13 (za + zb)) (v 15) w' := hd 15 (by kernel_rfl); have ev0 := hf.val 15 76 _ rfl (by kernel_rfl) (by kernel_rfl) (by kernel_rfl); have d1 : (IsI 12 zc) (v 16) w' := hd 16 (by kernel_rfl); have ev1 := hf.val 16 77 _ rfl (by kernel_rfl) (by kernel_rfl) (by kernel_rfl); clear hd hf; intro K hK; go_simp; go_at_call 12; go_split_ands; (with_reducible refine Calls.mono (Add_f d0 d1 (by decide) (by decide)) ?_); rintro e w2 ⟨x, rfl, e2, hx⟩; exact hK.out _ _ e2 hx (FreshIf.no rfl) }) ?_
        refine RgAll.cons (by { (with_reducible refine RgL.mkG 14 75 false (by rfl) (by kernel_rfl) (by kernel_rfl) (by kernel_rfl) (by kernel_rfl) (by kernel_rfl) ?_ ?_); (focus (intro _ _ h; exact h)); intro v a w' hE hd hf; have ev0 := hf.lit 8 (.pointer (some ⟨g8, 0, none⟩)) (by kernel_rfl) (by kernel_rfl); obtain ⟨s8, a8, n8, c8, b8, h8⟩ := (S.mono hE).at 4 (g8) (IsI 12 za) rfl; have L0 := b8.c0; have L1 := b8.c1; clear hd hf; intro K hK; go_simp; exact hK.out _ _ (Ext.refl _) h8 (FreshIf.no rfl) }) ?_
        refine RgAll.cons (by { (with_reducible refine RgL.mkG 14 75 false (by rfl) (by kernel_rfl) (by kernel_rfl) (by kernel_rfl) (by kernel_rfl) (by kernel_rfl) ?_ ?_); (focus (intro _ _ h; exact h)); intro v a w' hE hd hf; have ev0 := hf.lit 9 (.pointer (some ⟨g9, 0, none⟩)) (by kernel_rfl) (by kernel_rfl); obtain ⟨s8, a8, n8, c8, b8, h8⟩ := (S.mono hE).at 3 (g9) (IsI 12 zb) rfl; have L0 := b8.c0; have L1 := b8.c1; clear hd hf; intro K hK; go_simp; exact hK.out _ _ (Ext.refl _) h8 (FreshIf.no rfl) }) ?_
        refine RgAll.cons (by { (with_reducible refine RgL.mkG 14 75 false (by rfl) (by kernel_rfl) (by kernel_rfl) (by kernel_rfl) (by kernel_rfl) (by kernel_rfl) ?_ ?_); (focus (intro _ _ h; exact h)); intro v a w' hE hd hf; have ev0 := hf.lit 10 (.pointer (some ⟨g10, 0, none⟩)) (by kernel_rfl) (by kernel_rfl); obtain ⟨s8, a8, n8, c8, b8, h8⟩ := (S.mono hE).at 2 (g10) (IsI 12 zc) rfl; have L0 := b8.c0; have L1 := b8.c1; clear hd hf; intro K hK; go_simp; exact hK.out _ _ (Ext.refl _) h8 (FreshIf.no rfl) }) ?_
        refine RgAll.cons (by { (with_reducible refine RgL.mkG 14 75 false (by rfl) (by kernel_rfl) (by kernel_rfl) (by kernel_rfl) (by kernel_rfl) (by kernel_rfl) ?_ ?_); (focus (intro _ _ h; exact h)); intro v a w' hE hd hf; have d0 : (IsI 12 zb) (v 19) w' := hd 19 (by kernel_rfl); have ev0 := hf.val 19 80 _ rfl (by kernel_rfl) (by kernel_rfl) (by kernel_rfl); have d1 : (IsI 12 zc) (v 20) w' := hd 20 (by kernel_rfl); have ev1 := hf.val 20 81 _ rfl (by kernel_rfl) (by kernel_rfl) (by kernel_rfl); clear hd hf; intro K hK; go_simp; go_at_call 12; go_split_ands; (with_reducible refine Calls.mono (Add_f d0 d1 (by decide) (by decide)) ?_); rintro e w2 ⟨x, rfl, e2, hx⟩; exact hK.out _ _ e2 hx (FreshIf.no rfl) }) ?_
        refine RgAll.cons (by { (with_reducible refine RgL.mkG 14 75 false (by rfl) (by kernel_rfl) (by kernel_rfl) (by kernel_rfl) (by kernel_rfl) (by kernel_rfl) ?_ ?_); (focus (intro _ _ h; exact h)); intro v a w' hE hd hf; have d0 : (IsI 12 za) (v 18) w' := hd 18 (by kernel_rfl); have ev0 := hf.val 18 79 _ rfl (by kernel_rfl) (by kernel_rfl) (by kernel_rfl); have d1 : (IsI 13 (zb + zc)) (v 21) w' := hd 21 (by kernel_rfl); have ev1 := hf.val 21 82 _ rfl (by kernel_rfl) (by kernel_rfl) (by kernel_rfl); clear hd hf; intro K hK; go_simp; go_at_call 12; go_split_ands; (with_reducible refine Calls.mono (Add_f d0 d1 (by decide) (by decide)) ?_); rintro e w2 ⟨x, rfl, e2, hx⟩; exact hK.out _ _ e2 hx (FreshIf.no rfl) }) ?_
        refine RgAll.cons (by { (with_reducible refine RgL.mkG 14 75 false (by rfl) (by kernel_rfl) (by kernel_rfl) (by kernel_rfl) (by kernel_rfl) (by kernel_rfl) ?_ ?_); (focus (intro _ _ h; exact h)); intro v a w' hE hd hf; have d0 : (IsI 14 ((za + zb) + zc)) (v 17) w' := hd 17 (by kernel_rfl); have ev0 := hf.val 17 78 _ rfl (by kernel_rfl) (by kernel_rfl) (by kernel_rfl); have d1 : (IsI 14 (za + (zb + zc))) (v 22) w' := hd 22 (by kernel_rfl); have ev1 := hf.val 22 83 _ rfl (by kernel_rfl) (by kernel_rfl) (by kernel_rfl); clear hd hf; intro K hK; go_simp; go_at_call 14; go_split_ands; (with_reducible refine Calls.mono (Same_t d0 d1 (Int.add_assoc za zb zc) (by decide)) ?_); rintro e w2 ⟨x, rfl, e2, hx⟩; exact hK.out _ _ e2 hx (FreshIf.no rfl) }) ?_
        refine RgAll.cons (by { (with_reducible refine RgL.mkG 14 75 false (by rfl) (by kernel_rfl) (by kernel_rfl) (by kernel_rfl) (by kernel_rfl) (by kernel_rfl) ?_ ?_); (focus (intro _ _ h; exact h)); intro v a w' hE hd hf; have d0 : v 23 = .bool true := hd 23 (by kernel_rfl); have ev0 := hf.val 23 84 _ d0 (by kernel_rfl) (by kernel_rfl) (by kernel_rfl); clear d0; clear hd hf; intro K hK; go_simp; exact hK.out _ _ (Ext.refl _) rfl (FreshIf.no rfl) }) ?_
        refine RgAll.cons (by { (with_reducible refine RgL.mk (by rfl) ?_); intro v a w' hE hd hf; have d0 : v 14 = .bool false := hd 14 (by kernel_rfl); have ev0 := hf.val 14 75 _ d0 (by kernel_rfl) (by kernel_rfl) (by kernel_rfl); clear d0; have d1 : v 24 = .bool false := hd 24 (by kernel_rfl); have ev1 := hf.val 24 85 _ d1 (by kernel_rfl) (by kernel_rfl) (by kernel_rfl); clear d1; clear hd hf; intro K hK; go_simp; exact hK.out _ _ (Ext.refl _) rfl (FreshIf.no rfl) }) ?_
        refine RgAll.cons (by { (with_reducible refine RgL.mk (by rfl) ?_); intro v a w' hE hd hf; have d0 : v 25 = .bool false := hd 25 (by kernel_rfl); have ev0 := hf.val 25 86 _ d0 (by kernel_rfl) (by kernel_rfl) (by kernel_rfl); clear d0; clear hd hf; intro K hK; go_simp; exact hK.out _ _ (Ext.refl _) rfl (FreshIf.no rfl) }) ?_
        refine RgAll.cons (by { (with_reducible refine RgL.mkG 26 87 false (by rfl) (by kernel_rfl) (by kernel_rfl) (by kernel_rfl) (by kernel_rfl) (by kernel_rfl) ?_ ?_); (focus (intro _ _ h; exact h)); intro v a w' hE hd hf; have ev0 := hf.lit 12 (.pointer (some ⟨g12, 0, none⟩)) (by kernel_rfl) (by kernel_rfl); obtain ⟨s8, a8, n8, c8, b8, h8⟩ := (S.mono hE).at 0 (g12) (IsI 24 (za * zb)) rfl; have L0 := b8.c0; have L1 := b8.c1; clear hd hf; intro K hK; go_simp; exact hK.out _ _ (Ext.refl _) h8 (FreshIf.no rfl) }) ?_
        refine RgAll.cons (by { (with_reducible refine RgL.mkG 26 87 false (by rfl) (by kernel_rfl) (by kernel_rfl) (by kernel_rfl) (by kernel_rfl) (by kernel_rfl) ?_ ?_); (focus (intro _ _ h; exact h)); intro v a w' hE hd hf; have ev0 := hf.lit 10 (.pointer (some ⟨g10, 0, none⟩)) (by kernel_rfl) (by kernel_rfl); obtain ⟨s8, a8, n8, c8, b8, h8⟩ := (S.mono hE).at 2 (g10) (IsI 12 zc) rfl; have L0 := b8.c0; have L1 := b8.c1; clear hd hf; intro K hK; go_simp; exact hK.out _ _ (Ext.refl _) h8 (FreshIf.no rfl) }) ?_
        refine RgAll.cons (by { (with_reducible refine RgL.mkG 26 87 false (by rfl) (by kernel_rfl) (by kernel_rfl) (by kernel_rfl) (by kernel_rfl) (by kernel_rfl) ?_ ?_); (focus (intro _ _ h; exact h)); intro v a w' hE hd hf; have d0 : (IsI 24 (za * zb)) (v 27) w' := hd 27 (by kernel_rfl); have ev0 := hf.val 27 88 _ rfl (by kernel_rfl) (by kernel_rfl) (by kernel_rfl); have d1 : (IsI 12 zc) (v 28) w' := hd 28 (by kernel_rfl); have ev1 := hf.val 28 89 _ rfl (by kernel_rfl) (by kernel_rfl) (by kernel_rfl); clear hd hf; intro K hK; go_simp; go_at_call 13; go_split_ands; (with_reducible refine Calls.mono (Mul_f d0 d1 (by decide) (by decide)) ?_); rintro e w2 ⟨x, rfl, e2, hx⟩; exact hK.out _ _ e2 hx (FreshIf.no rfl) }) ?_
        refine RgAll.cons (by { (with_reducible refine RgL.mkG 26 87 false (by rfl) (by kernel_rfl) (by kernel_rfl) (by kernel_rfl) (by kernel_rfl) (by kernel_rfl) ?_ ?_); (focus (intro _ _ h; exact h)); intro v a w' hE hd hf; have ev0 := hf.lit 8 (.pointer (some ⟨g8, 0, none⟩)) (by kernel_rfl) (by kernel_rfl); obtain ⟨s8, a8, n8, c8, b8, h8⟩ := (S.mono hE).at 4 (g8) (IsI 12 za) rfl; have L0 := b8.c0; have L1 := b8.c1; clear hd hf; intro K hK; go_simp; exact hK.out _ _ (Ext.refl _) h8 (FreshIf.no rfl) }) ?_
        refine RgAll.cons (by { (with_reducible refine RgL.mkG 26 87 false (by rfl) (by kernel_rfl) (by kernel_rfl) (by kernel_rfl) (by kernel_rfl) (by kernel_rfl) ?_ ?_); (focus (intro _ _ h; exact h)); intro v a w' hE hd hf; have ev0 := hf.lit 9 (.pointer (some ⟨g9, 0, none⟩)) (by kernel_rfl) (by kernel_rfl); obtain ⟨s8, a8, n8, c8, b8, h8⟩ := (S.mono hE).at 3 (g9) (IsI 12 zb) rfl; have L0 := b8.c0; have L1 := b8.c1; clear hd hf; intro K hK; go_simp; exact hK.out _ _ (Ext.refl _) h8 (FreshIf.no rfl) }) ?_
        refine RgAll.cons (by { (with_reducible refine RgL.mkG 26 87 false (by rfl) (by kernel_rfl) (by kernel_rfl) (by kernel_rfl) (by kernel_rfl) (by kernel_rfl) ?_ ?_); (focus (intro _ _ h; exact h)); intro v a w' hE hd hf; have ev0 := hf.lit 10 (.pointer (some ⟨g10, 0, none⟩)) (by kernel_rfl) (by kernel_rfl); obtain ⟨s8, a8, n8, c8, b8, h8⟩ := (S.mono hE).at 2 (g10) (IsI 12 zc) rfl; have L0 := b8.c0; have L1 := b8.c1; clear hd hf; intro K hK; go_simp; exact hK.out _ _ (Ext.refl _) h8 (FreshIf.no rfl) }) ?_
        refine RgAll.cons (by { (with_reducible refine RgL.mkG 26 87 false (by rfl) (by kernel_rfl) (by kernel_rfl) (by kernel_rfl) (by kernel_rfl) (by kernel_rfl) ?_ ?_); (focus (intro _ _ h; exact h)); intro v a w' hE hd hf; have d0 : (IsI 12 zb) (v 31) w' := hd 31 (by kernel_rfl); have ev0 := hf.val 31 92 _ rfl (by kernel_rfl) (by kernel_rfl) (by kernel_rfl); have d1 : (IsI 12 zc) (v 32) w' := hd 32 (by kernel_rfl); have ev1 := hf.val 32 93 _ rfl (by kernel_rfl) (by kernel_rfl) (by kernel_rfl); clear hd hf; intro K hK; go_simp; go_at_call 13; go_split_ands; (with_reducible refine Calls.mono (Mul_f d0 d1 (by decide) (by decide)) ?_); rintro e w2 ⟨x, rfl, e2, hx⟩; exact hK.out _ _ e2 hx (FreshIf.no rfl) }) ?_
        refine RgAll.cons (by { (with_reducible refine RgL.mkG 26 87 false (by rfl) (by kernel_rfl) (by kernel_rfl) (by kernel_rfl) (by kernel_rfl) (by kernel_rfl) ?_ ?_); (focus (intro _ _ h; exact h)); intro v a w' hE hd hf; have d0 : (IsI 12 za) (v 30) w' := hd 30 (by kernel_rfl); have ev0 := hf.val 30 91 _ rfl (by kernel_rfl) (by kernel_rfl) (by kernel_rfl); have d1 : (IsI 24 (zb * zc)) (v 33) w' := hd 33 (by kernel_rfl); have ev1 := hf.val 33 94 _ rfl (by kernel_rfl) (by kernel_rfl) (by kernel_rfl); clear hd hf; intro K hK; go_simp; go_at_call 13; go_split_ands; (with_reducible refine Calls.mono (Mul_f d0 d1 (by decide) (by decide)) ?_); rintro e w2 ⟨x, rfl, e2, hx⟩; exact hK.out _ _ e2 hx (FreshIf.no rfl) }) ?_
        refine RgAll.cons (by { (with_reducible refine RgL.mkG 26 87 false (by rfl) (by kernel_rfl) (by kernel_rfl) (by kernel_rfl) (by kernel_rfl) (by kernel_rfl) ?_ ?_); (focus (intro _ _ h; exact h)); intro v a w' hE hd hf; have d0 : (IsI 36 ((za * zb) * zc)) (v 29) w' := hd 29 (by kernel_rfl); have ev0 := hf.val 29 90 _ rfl (by kernel_rfl) (by kernel_rfl) (by kernel_rfl); have d1 : (IsI 36 (za * (zb * zc))) (v 34) w' := hd 34 (by kernel_rfl); have ev1 := hf.val 34 95 _ rfl (by kernel_rfl) (by kernel_rfl) (by kernel_rfl); clear hd hf; intro K hK; go_simp; go_at_call 14; go_split_ands; (with_reducible refine Calls.mono (Same_t d0 d1 (Int.mul_assoc za zb zc) (by decide)) ?_); rintro e w2 ⟨x, rfl, e2, hx⟩; exact hK.out _ _ e2 hx (FreshIf.no rfl) }) ?_
        refine RgAll.cons (by { (with_reducible refine RgL.mkG 26 87 false (by rfl) (by kernel_rfl) (by kernel_rfl) (by kernel_rfl) (by kernel_rfl) (by kernel_rfl) ?_ ?_); (focus (intro _ _ h; exact h)); intro v a w' hE hd hf; have d0 : v 35 = .bool true := hd 35 (by kernel_rfl); have ev0 := hf.val 35 96 _ d0 (by kernel_rfl) (by kernel_rfl) (by kernel_rfl); clear d0; clear hd hf; intro K hK; go_simp; exact hK.out _ _ (Ext.refl _) rfl (FreshIf.no rfl) }) ?_
        refine RgAll.cons (by { (with_reducible refine RgL.mk (by rfl) ?_); intro v a w' hE hd hf; have d0 : v 26 = .bool false := hd 26 (by kernel_rfl); have ev0 := hf.val 26 87 _ d0 (by kernel_rfl) (by kernel_rfl) (by kernel_rfl); clear d0; have d1 : v 36 = .bool false := hd 36 (by kernel_rfl); have ev1 := hf.val 36 97 _ d1 (by kernel_rfl) (by kernel_rfl) (by kernel_rfl); clear d1; clear hd hf; intro K hK; go_simp; exact hK.out _ _ (Ext.refl _) rfl (FreshIf.no rfl) }) ?_
        exact RgAll.nil
      intro v W13 e1 hΦ _
      replace S := S.mono e1
      have v37 : v 37 = .bool false := hΦ 37 (by decide)
      simp only [layL, Act.put, List.setIfInBounds_toArray, List.set_cons_zero, List.set_cons_succ, Nat.reduceAdd]
      rw [v37]
      clear v37
      clear hΦ
      clear e1
      refine wpAny_done (by kernel_rfl) ?_ _
      go_upto_region 17 with (fail)
      refine wp_region_rg 39 [some 99, some 100, some 101, some 102, some 103, some 104, some 105, some 106, some 107, some 108, some 109, some 110, some 111, some 112, some 113, some 114, some 115, some 116, some 117, some 118, some 119, some 120, some 121, some 122, some 123, some 124, some 125, some 126, some 127, some 128, some 129, some 130, some 131, some 132, some 133, some 134, some 135, some 136, some 137] [IsI 12 za, IsI 12 zb, IsI 13 (za + zb), IsI 12 zc, IsI 25 ((za + zb) * zc), IsI 12 za, IsI 12 zc, IsI 24 (za * zc), IsI 12 zb, IsI 12 zc, IsI 24 (zb * zc), IsI 25 ((za * zc) + (zb * zc)), IsV (.bool true), IsV (.bool false), IsV (.bool false), IsI 13 (za + zb), IsI 12 zb, IsI 14 ((za + zb) - zb), IsI 12 za, IsV (.bool true), IsV (.bool false), IsV (.bool false), IsV (.bool false), IsI 12 za, IsI 12 za, IsI 12 (-za), IsI 13 (za + (-za)), IsI 0 0, IsV (.bool true), IsV (.bool false), IsV (.bool false), IsV (.bool false), IsI 12 za, IsI 2 1, IsI 14 (za * 1), IsI 12 za, IsV (.bool true), IsV (.bool false), IsV (.bool false)] [] 0 (by kernel_rfl) (by decide) (by kernel_rfl) (by kernel_rfl) (by kernel_rfl) (by kernel_rfl) (by kernel_rfl) ?_ ?_ ?_ ?_
      · repeat' (first | exact trivial | exact IsV.stb _ | exact IsI.stb _ _ | exact IsB.stb _ | exact IsR.stb _ _ | exact IsMag.stb _ _ | exact IsPos.stb | apply IsT3.stb | apply IsT2.stb | apply And.intro)
      · exact (fun _ h => by cases h)
      · refine RgAll.cons (by { (with_reducible refine RgL.mk (by rfl) ?_); intro v a w' hE hd hf; have ev0 := hf.lit 8 (.pointer (some ⟨g8, 0, none⟩)) (by kernel_rfl) (by kernel_rfl); obtain ⟨s8, a8, n8, c8, b8, h8⟩ := (S.mono hE).at 4 (g8) (IsI 12 za) rfl; have L0 := b8.c0; have L1 := b8.c1; clear hd hf; intro K hK; go_simp; exact hK.out _ _ (Ext.refl _) h8 (FreshIf.no rfl) }) ?_
        refine RgAll.cons (by { (with_reducible refine RgL.mk (by rfl) ?_); intro v a w' hE hd hf; have ev0 := hf.lit 9 (.pointer (some ⟨g9, 0, none⟩)) (by kernel_rfl) (by kernel_rfl); obtain ⟨s8, a8, n8, c8, b8, h8⟩ := (S.mono hE).at 3 (g9) (IsI 12 zb) rfl; have L0 := b8.c0; have L1 := b8.c1; clear hd hf; intro K hK; go_simp; exact hK.out _ _ (Ext.refl _) h8 (FreshIf.no rfl) }) ?_
        refine RgAll.cons (by { (with_reducible refine RgL.mk (by rfl) ?_); intro v a w' hE hd hf; have d0 : (IsI 12 za) (v 0) w' := hd 0 (by kernel_rfl); have ev0 := hf.val 0 99 _ rfl (by kernel_rfl) (by kernel_rfl) (by kernel_rfl); have d1 : (IsI 12 zb) (v 1) w' := hd 1 (by kernel_rfl); have ev1 := hf.val 1 100 _ rfl (by kernel_rfl) (by kernel_rfl) (by kernel_rfl); clear hd hf; intro K hK; go_simp; go_at_call 12; go_split_ands; (with_reducible refine Calls.mono (Add_f d0 d1 (by decide) (by decide)) ?_); rintro e w2 ⟨x, rfl, e2, hx⟩; exact hK.out _ _ e2 hx (FreshIf.no rfl) }) ?_
        refine RgAll.cons (by { (with_reducible refine RgL.mk (by rfl) ?_); intro v a w' hE hd hf; have ev0 := hf.lit 10 (.pointer (some ⟨g10, 0, none⟩)) (by kernel_rfl) (by kernel_rfl); obtain ⟨s8, a8, n8, c8, b8, h8⟩ := (S.mono hE).at 2 (g10) (IsI 12 zc) rfl; have L0 := b8.c0; have L1 := b8.c1; clear hd hf; intro K hK; go_simp; exact hK.out _ _ (Ext.refl _) h8 (FreshIf.no rfl) }) ?_
        refine RgAll.cons (by { (with_reducible refine RgL.mk (by rfl) ?_); intro v a w' hE hd hf; have d0 : (IsI 13 (za + zb)) (v 2) w' := hd 2 (by kernel_rfl); have ev0 := hf.val 2 101 _ rfl (by kernel_rfl) (by kernel_rfl) (by kernel_rfl); have d1 : (IsI 12 zc) (v 3) w' := hd 3 (by kernel_rfl); have ev1 := hf.val 3 102 _ rfl (by kernel_rfl) (by kernel_rfl) (by kernel_rfl); clear hd hf; intro K hK; go_simp; go_at_call 13; go_split_ands; (with_reducible refine Calls.mono (Mul_f d0 d1 (by decide) (by decide)) ?_); rintro e w2 ⟨x, rfl, e2, hx⟩; exact hK.out _ _ e2 hx (FreshIf.no rfl) }) ?_
        refine RgAll.cons (by { (with_reducible refine RgL.mk (by rfl) ?_); intro v a w' hE hd hf; have ev0 := hf.lit 8 (.pointer (some ⟨g8, 0, none⟩)) (by kernel_rfl) (by kernel_rfl); obtain ⟨s8, a8, n8, c8, b8, h8⟩ := (S.mono hE).at 4 (g8) (IsI 12 za) rfl; have L0 := b8.c0; have L1 := b8.c1; clear hd hf; intro K hK; go_simp; exact hK.out _ _ (Ext.refl _) h8 (FreshIf.no rfl) }) ?_
        refine RgAll.cons (by { (with_reducible refine RgL.mk (by rfl) ?_); intro v a w' hE hd hf; have ev0 := hf.lit 10 (.pointer (some ⟨g10, 0, none⟩)) (by kernel_rfl) (by kernel_rfl); obtain ⟨s8, a8, n8, c8, b8, h8⟩ := (S.mono hE).at 2 (g10) (IsI 12 zc) rfl; have L0 := b8.c0; have L1 := b8.c1; clear hd hf; intro K hK; go_simp; exact hK.out _ _ (Ext.refl _) h8 (FreshIf.no rfl) }) ?_
        refine RgAll.cons (by { (with_reducible refine RgL.mk (by rfl) ?_); intro v a w' hE hd hf; have d0 : (IsI 12 za) (v 5) w' := hd 5 (by kernel_rfl); have ev0 := hf.val 5 104 _ rfl (by kernel_rfl) (by kernel_rfl) (by kernel_rfl); have d1 : (IsI 12 zc) (v 6) w' := hd 6 (by kernel_rfl); have ev1 := hf.val 6 105 _ rfl (by kernel_rfl) (by kernel_rfl) (by kernel_rfl); clear hd hf; intro K hK; go_simp; go_at_call 13; go_split_ands; (with_reducible refine Calls.mono (Mul_f d0 d1 (by decide) (by decide)) ?_); rintro e w2 ⟨x, rfl, e2, hx⟩; exact hK.out _ _ e2 hx (FreshIf.no rfl) }) ?_
        refine RgAll.cons (by { (with_reducible refine RgL.mk (by rfl) ?_); intro v a w' hE hd hf; have ev0 := hf.lit 9 (.pointer (some ⟨g9, 0, none⟩)) (by kernel_rfl) (by kernel_rfl); obtain ⟨s8, a8, n8, c8, b8, h8⟩ := (S.mono hE).at 3 (g9) (IsI 12 zb) rfl; have L0 := b8.c0; have L1 := b8.c1; clear hd hf; intro K hK; go_simp; exact hK.out _ _ (Ext.refl _) h8 (FreshIf.no rfl) }) ?_
        refine RgAll.cons (by { (with_reducible refine RgL.mk (by rfl) ?_); intro v a w' hE hd hf; have ev0 := hf.lit 10 (.pointer (some ⟨g10, 0, none⟩)) (by kernel_rfl) (by kernel_rfl); obtain ⟨s8, a8, n8, c8, b8, h8⟩ := (S.mono hE).at 2 (g10) (IsI 12 zc) rfl; have L0 := b8.c0; have L1 := b8.c1; clear hd hf; intro K hK; go_simp; exact hK.out _ _ (Ext.refl _) h8 (FreshIf.no rfl) }) ?_
        refine RgAll.cons (by { (with_reducible refine RgL.mk (by rfl) ?_); intro v a w' hE hd hf; have d0 : (IsI 12 zb) (v 8) w' := hd 8 (by kernel_rfl); have ev0 := hf.val 8 107 _ rfl (by kernel_rfl) (by kernel_rfl) (by kernel_rfl); have d1 : (IsI 12 zc) (v 9) w' := hd 9 (by kernel_rfl); have ev1 := hf.val 9 108 _ rfl (by kernel_rfl) (by kernel_rfl) (by kernel_rfl); clear hd hf; intro K hK; go_simp; go_at_call 13; go_split_ands; (with_reducible refine Calls.mono (Mul_f d0 d1 (by decide) (by decide)) ?_); rintro e w2 ⟨x, rfl, e2, hx⟩; exact hK.out _ _ e2 hx (FreshIf.no rfl) }) ?_
        refine RgAll.cons (by { (with_reducible refine RgL.mk (by rfl) ?_); intro v a w' hE hd hf; have d0 : (IsI 24 (za * zc)) (v 7) w' := hd 7 (by kernel_rfl); have ev0 := hf.val 7 106 _ rfl (by kernel_rfl) (by kernel_rfl) (by kernel_rfl); have d1 : (IsI 24 (zb * zc)) (v 10) w' := hd 10 (by kernel_rfl); have ev1 := hf.val 10 109 _ rfl (by kernel_rfl) (by kernel_rfl) (by kernel_rfl); clear hd hf; intro K hK; go_simp; go_at_call 12; go_split_ands; (with_reducible refine Calls.mono (Add_f d0 d1 (by decide) (by decide)) ?_); rintro e w2 ⟨x, rfl, e2, hx⟩; exact hK.out _ _ e2 hx (FreshIf.no rfl) }) ?_
        refine RgAll.cons (by { (with_reducible refine RgL.mk (by rfl) ?_); intro v a w' hE hd hf; have d0 : (IsI 25 ((za + zb) * zc)) (v 4) w' := hd 4 (by kernel_rfl); have ev0 := hf.val 4 103 _ rfl (by kernel_rfl) (by kernel_rfl) (by kernel_rfl); have d1 : (IsI 25 ((za * zc) + (zb * zc))) (v 11) w' := hd 11 (by kernel_rfl); have ev1 := hf.val 11 110 _ rfl (by kernel_rfl) (by kernel_rfl) (by kernel_rfl); clear hd hf; intro K hK; go_simp; go_at_call 14; go_split_ands; (with_reducible refine Calls.mono (Same_t d0 d1 (Int.add_mul za zb zc) (by decide)) ?_); rintro e w2 ⟨x, rfl, e2, hx⟩; exact hK.out _ _ e2 hx (FreshIf.no rfl) }) ?_
        refine RgAll.cons (by { (with_reducible refine RgL.mk (by rfl) ?_); intro v a w' hE hd hf; have d0 : v 12 = .bool true := hd 12 (by kernel_rfl); have ev0 := hf.val 12 111 _ d0 (by kernel_rfl) (by kernel_rfl) (by kernel_rfl); clear d0; clear hd hf; intro K hK; go_simp; exact hK.out _ _ (Ext.refl _) rfl (FreshIf.no rfl) }) ?_
        refine RgAll.cons (by { (with_reducible refine RgL.mk (by rfl) ?_); intro v a w' hE hd hf; have d0 : v 13 = .bool false := hd 13 (by kernel_rfl); have ev0 := hf.val 13 112 _ d0 (by kernel_rfl) (by kernel_rfl) (by kernel_rfl); clear d0; clear hd hf; intro K hK; go_simp; exact hK.out _ _ (Ext.refl _) rfl (FreshIf.no rfl) }) ?_
        refine RgAll.cons (by { (with_reducible refine RgL.mkG 14 113 false (by rfl) (by kernel_rfl) (by kernel_rfl) (by kernel_rfl) (by kernel_rfl) (by kernel_rfl) ?_ ?_); (focus (intro _ _ h; exact h)); intro v a w' hE hd hf; have ev0 := hf.lit 11 (.pointer (some ⟨g11, 0, none⟩)) (by kernel_rfl) (by kernel_rfl); obtain ⟨s8, a8, n8, c8, b8, h8⟩ := (S.mono hE).at 1 (g11) (IsI 13 (za + zb)) rfl; have L0 := b8.c0; have L1 := b8.c1; clear hd hf; intro K hK; go_simp; exact hK.out _ _ (Ext.refl _) h8 (FreshIf.no rfl) }) ?_
        refine RgAll.cons (by { (with_reducible refine RgL.mkG 14 113 false (by rfl) (by kernel_rfl) (by kernel_rfl) (by kernel_rfl) (by kernel_rfl) (by kernel_rfl) ?_ ?_); (focus (intro _ _ h; exact h)); intro v a w' hE hd hf; have ev0 := hf.lit 9 (.pointer (some ⟨g9, 0, none⟩)) (by kernel_rfl) (by kernel_rfl); obtain ⟨s8, a8, n8, c8, b8, h8⟩ := (S.mono hE).at 3 (g9) (IsI 12 zb) rfl; have L0 := b8.c0; have L1 := b8.c1; clear hd hf; intro K hK; go_simp; exact hK.out _ _ (Ext.refl _) h8 (FreshIf.no rfl) }) ?_
        refine RgAll.cons (by { (with_reducible refine RgL.mkG 14 113 false (by rfl) (by kernel_rfl) (by kernel_rfl) (by kernel_rfl) (by kernel_rfl) (by kernel_rfl) ?_ ?_); (focus (intro _ _ h; exact h)); intro v a w' hE hd hf; have d0 : (IsI 13 (za + zb)) (v 15) w' := hd 15 (by kernel_rfl); have ev0 := hf.val 15 114 _ rfl (by kernel_rfl) (by kernel_rfl) (by kernel_rfl); have d1 : (IsI 12 zb) (v 16) w' := hd 16 (by kernel_rfl); have ev1 := hf.val 16 115 _ rfl (by kernel_rfl) (by kernel_rfl) (by kernel_rfl); clear hd hf; intro K hK; go_simp; go_at_call 22; go_split_ands; (with_reducible refine Calls.mono (Sub_f d0 d1 (by decide) (by decide)) ?_); rintro e w2 ⟨x, rfl, e2, hx⟩; exact hK.out _ _ e2 hx (FreshIf.no rfl) }) ?_
        refine RgAll.cons (by { (with_reducible refine RgL.mkG 14 113 false (by rfl) (by kernel_rfl) (by kernel_rfl) (by kernel_rfl) (by kernel_rfl) (by kernel_rfl) ?_ ?_); (focus (intro _ _ h; exact h)); intro v a w' hE hd hf; have ev0 := hf.lit 8 (.pointer (some ⟨g8, 0, none⟩)) (by kernel_rfl) (by kernel_rfl); obtain ⟨s8, a8, n8, c8, b8, h8⟩ := (S.mono hE).at 4 (g8) (IsI 12 za) rfl; have L0 := b8.c0; have L1 := b8.c1; clear hd hf; intro K hK; go_simp; exact hK.out _ _ (Ext.refl _) h8 (FreshIf.no rfl) }) ?_
        refine RgAll.cons (by { (with_reducible refine RgL.mkG 14 113 false (by rfl) (by kernel_rfl) (by kernel_rfl) (by kernel_rfl) (by kernel_rfl) (by kernel_rfl) ?_ ?_); (focus (intro _ _ h; exact h)); intro v a w' hE hd hf; have d0 : (IsI 14 ((za + zb) - zb)) (v 17) w' := hd 17 (by kernel_rfl); have ev0 := hf.val 17 116 _ rfl (by kernel_rfl) (by kernel_rfl) (by kernel_rfl); have d1 : (IsI 12 za) (v 18) w' := hd 18 (by kernel_rfl); have ev1 := hf.val 18 117 _ rfl (by kernel_rfl) (by kernel_rfl) (by kernel_rfl); clear hd hf; intro K hK; go_simp; go_at_call 14; go_split_ands; (with_reducible refine Calls.mono (Same_t d0 d1 (Int.add_sub_cancel za zb) (by decide)) ?_); rintro e w2 ⟨x, rfl, e2, hx⟩; exact hK.out _ _ e2 hx (FreshIf.no rfl) }) ?_
        refine RgAll.cons (by { (with_reducible refine RgL.mkG 14 113 false (by rfl) (by kernel_rfl) (by kernel_rfl) (by kernel_rfl) (by kernel_rfl) (by kernel_rfl) ?_ ?_); (focus (intro _ _ h; exact h)); intro v a w' hE hd hf; have d0 : v 19 = .bool true := hd 19 (by kernel_rfl); have ev0 := hf.val 19 118 _ d0 (by kernel_rfl) (by kernel_rfl) (by kernel_rfl); clear d0; clear hd hf; intro K hK; go_simp; exact hK.out _ _ (Ext.refl _) rfl (FreshIf.no rfl) }) ?_
        refine RgAll.cons (by { (with_reducible refine RgL.mk (by rfl) ?_); intro v a w' hE hd hf; have d0 : v 14 = .bool false := hd 14 (by kernel_rfl); have ev0 := hf.val 14 113 _ d0 (by kernel_rfl) (by kernel_rfl) (by kernel_rfl); clear d0; have d1 : v 20 = .bool false := hd 20 (by kernel_rfl); have ev1 := hf.val 20 119 _ d1 (by kernel_rfl) (by kernel_rfl) (by kernel_rfl); clear d1; clear hd hf; intro K hK; go_simp; exact hK.out _ _ (Ext.refl _) rfl (FreshIf.no rfl) }) ?_
        refine RgAll.cons (by { (with_reducible refine RgL.mk (by rfl) ?_); intro v a w' hE hd hf; have d0 : v 21 = .bool false := hd 21 (by kernel_rfl); have ev0 := hf.val 21 120 _ d0 (by kernel_rfl) (by kernel_rfl) (by kernel_rfl); clear d0; clear hd hf; intro K hK; go_simp; exact hK.out _ _ (Ext.refl _) rfl (FreshIf.no rfl) }) ?_
        refine RgAll.cons (by { (with_reducible refine RgL.mkG 22 121 false (by rfl) (by kernel_rfl) (by kernel_rfl) (by kernel_rfl) (by kernel_rfl) (by kernel_rfl) ?_ ?_); (focus (intro _ _ h; exact h)); intro v a w' hE hd hf; have ev0 := hf.lit 8 (.pointer (some ⟨g8, 0, none⟩)) (by kernel_rfl) (by kernel_rfl); obtain ⟨s8, a8, n8, c8, b8, h8⟩ := (S.mono hE).at 4 (g8) (IsI 12 za) rfl; have L0 := b8.c0; have L1 := b8.c1; clear hd hf; intro K hK; go_simp; exact hK.out _ _ (Ext.refl _) h8 (FreshIf.no rfl) }) ?_
        refine RgAll.cons (by { (with_reducible refine RgL.mkG 22 121 false (by rfl) (by kernel_rfl) (by kernel_rfl) (by kernel_rfl) (by kernel_rfl) (by kernel_rfl) ?_ ?_); (focus (intro _ _ h; exact h)); intro v a w' hE hd hf; have ev0 := hf.lit 8 (.pointer (some ⟨g8, 0, none⟩)) (by kernel_rfl) (by kernel_rfl); obtain ⟨s8, a8, n8, c8, b8, h8⟩ := (S.mono hE).at 4 (g8) (IsI 12 za) rfl; have L0 := b8.c0; have L1 := b8.c1; clear hd hf; intro K hK; go_simp; exact hK.out _ _ (Ext.refl _) h8 (FreshIf.no rfl) }) ?_
        refine RgAll.cons (by { (with_reducible refine RgL.mkG 22 121 false (by rfl) (by kernel_rfl) (by kernel_rfl) (by kernel_rfl) (by kernel_rfl) (by kernel_rfl) ?_ ?_); (focus (intro _ _ h; exact h)); intro v a w' hE hd hf; have d0 : (IsI 12 za) (v 24) w' := hd 24 (by kernel_rfl); have ev0 := hf.val 24 123 _ rfl (by kernel_rfl) (by kernel_rfl) (by kernel_rfl); clear hd hf; intro K hK; go_simp; go_at_call 29; go_split_ands; (with_reducible refine Calls.mono (Neg_f d0) ?_); rintro e w2 ⟨x, rfl, e2, hx⟩; exact hK.out _ _ e2 hx (FreshIf.no rfl) }) ?_
        refine RgAll.cons (by { (with_reducible refine RgL.mkG 22 121 false (by rfl) (by kernel_rfl) (by kernel_rfl) (by kernel_rfl) (by kernel_rfl) (by kernel_rfl) ?_ ?_); (focus (intro _ _ h; exact h)); intro v a w' hE hd hf; have d0 : (IsI 12 za) (v 23) w' := hd 23 (by kernel_rfl); have ev0 := hf.val 23 122 _ rfl (by kernel_rfl) (by kernel_rfl) (by kernel_rfl); have d1 : (IsI 12 (-za)) (v 25) w' := hd 25 (by kernel_rfl); have ev1 := hf.val 25 124 _ rfl (by kernel_rfl) (by kernel_rfl) (by kernel_rfl); clear hd hf; intro K hK; go_simp; go_at_call 12; go_split_ands; (with_reducible refine Calls.mono (Add_f d0 d1 (by decide) (by decide)) ?_); rintro e w2 ⟨x, rfl, e2, hx⟩; exact hK.out _ _ e2 hx (FreshIf.no rfl) }) ?_
        refine RgAll.cons (by { (with_reducible refine RgL.mkG 22 121 false (by rfl) (by kernel_rfl) (by kernel_rfl) (by kernel_rfl) (by kernel_rfl) (by kernel_rfl) ?_ ?_); (focus (intro _ _ h; exact h)); intro v a w' hE hd hf; skip; clear hd hf; intro K hK; go_simp; exact hK.out _ _ (Ext.refl _) (IsI.nil _ _) (FreshIf.no rfl) }) ?_
        refine RgAll.cons (by { (with_reducible refine RgL.mkG 22 121 false (by rfl) (by kernel_rfl) (by kernel_rfl) (by kernel_rfl) (by kernel_rfl) (by kernel_rfl) ?_ ?_); (focus (intro _ _ h; exact h)); intro v a w' hE hd hf; have d0 : (IsI 13 (za + (-za))) (v 26) w' := hd 26 (by kernel_rfl); have ev0 := hf.val 26 125 _ rfl (by kernel_rfl) (by kernel_rfl) (by kernel_rfl); have d1 : (IsI 0 0) (v 27) w' := hd 27 (by kernel_rfl); have ev1 := hf.val 27 126 _ rfl (by kernel_rfl) (by kernel_rfl) (by kernel_rfl); clear hd hf; intro K hK; go_simp; go_at_call 14; go_split_ands; (with_reducible refine Calls.mono (Same_t d0 d1 (Int.add_right_neg za) (by decide)) ?_); rintro e w2 ⟨x, rfl, e2, hx⟩; exact hK.out _ _ e2 hx (FreshIf.no rfl) }) ?_
        refine RgAll.cons (by { (with_reducible refine RgL.mkG 22 121 false (by rfl) (by kernel_rfl) (by kernel_rfl) (by kernel_rfl) (by kernel_rfl) (by kernel_rfl) ?_ ?_); (focus (intro _ _ h; exact h)); intro v a w' hE hd hf; have d0 : v 28 = .bool true := hd 28 (by kernel_rfl); have ev0 := hf.val 28 127 _ d0 (by kernel_rfl) (by kernel_rfl) (by kernel_rfl); clear d0; clear hd hf; intro K hK; go_simp; exact hK.out _ _ (Ext.refl _) rfl (FreshIf.no rfl) }) ?_
        refine RgAll.cons (by { (with_reducible refine RgL.mk (by rfl) ?_); intro v a w' hE hd hf; have d0 : v 22 = .bool false := hd 22 (by kernel_rfl); have ev0 := hf.val 22 121 _ d0 (by kernel_rfl) (by kernel_rfl) (by kernel_rfl); clear d0; have d1 : v 29 = .bool false := hd 29 (by kernel_rfl); have ev1 := hf.val 29 128 _ d1 (by kernel_rfl) (by kernel_rfl) (by kernel_rfl); clear d1; clear hd hf; intro K hK; go_simp; exact hK.out _ _ (Ext.refl _) rfl (FreshIf.no rfl) }) ?_
        refine RgAll.cons (by { (with_reducible refine RgL.mk (by rfl) ?_); intro v a w' hE hd hf; have d0 : v 30 = .bool false := hd 30 (by kernel_rfl); have ev0 := hf.val 30 129 _ d0 (by kernel_rfl) (by kernel_rfl) (by kernel_rfl); clear d0; clear hd hf; intro K hK; go_simp; exact hK.out _ _ (Ext.refl _) rfl (FreshIf.no rfl) }) ?_
        refine RgAll.cons (by { (with_reducible refine RgL.mkG 31 130 false (by rfl) (by kernel_rfl) (by kernel_rfl) (by kernel_rfl) (by kernel_rfl) (by kernel_rfl) ?_ ?_); (focus (intro _ _ h; exact h)); intro v a w' hE hd hf; have ev0 := hf.lit 8 (.pointer (some ⟨g8, 0, none⟩)) (by kernel_rfl) (by kernel_rfl); obtain ⟨s8, a8, n8, c8, b8, h8⟩ := (S.mono hE).at 4 (g8) (IsI 12 za) rfl; have L0 := b8.c0; have L1 := b8.c1; clear hd hf; intro K hK; go_simp; exact hK.out _ _ (Ext.refl _) h8 (FreshIf.no rfl) }) ?_
        refine RgAll.cons (by { (with_reducible refine RgL.mkG 31 130 false (by rfl) (by kernel_rfl) (by kernel_rfl) (by kernel_rfl) (by kernel_rfl) (by kernel_rfl) ?_ ?_); (focus (intro _ _ h; exact h)); intro v a w' hE hd hf; skip; clear hd hf; intro K hK; go_simp; go_at_call 23; go_split_ands; (with_reducible refine Calls.mono (Of_f _ 1 (by decide) (by decide)) ?_); rintro e w2 ⟨x, rfl, e2, hx⟩; exact hK.out _ _ e2 hx (FreshIf.no rfl) }) ?_
        refine RgAll.cons (by { (with_reducible refine RgL.mkG 31 130 false (by rfl) (by kernel_rfl) (by kernel_rfl) (by kernel_rfl) (by kernel_rfl) (by kernel_rfl) ?_ ?_); (focus (intro _ _ h; exact h)); intro v a w' hE hd hf; have d0 : (IsI 12 za) (v 32) w' := hd 32 (by kernel_rfl); have ev0 := hf.val 32 131 _ rfl (by kernel_rfl) (by kernel_rfl) (by kernel_rfl); have d1 : (IsI 2 1) (v 33) w' := hd 33 (by kernel_rfl); have ev1 := hf.val 33 132 _ rfl (by kernel_rfl) (by kernel_rfl) (by kernel_rfl); clear hd hf; intro K hK; go_simp; go_at_call 13; go_split_ands; (with_reducible refine Calls.mono (Mul_f d0 d1 (by decide) (by decide)) ?_); rintro e w2 ⟨x, rfl, e2, hx⟩; exact hK.out _ _ e2 hx (FreshIf.no rfl) }) ?_
        refine RgAll.cons (by { (with_reducible refine RgL.mkG 31 130 false (by rfl) (by kernel_rfl) (by kernel_rfl) (by kernel_rfl) (by kernel_rfl) (by kernel_rfl) ?_ ?_); (focus (intro _ _ h; exact h)); intro v a w' hE hd hf; have ev0 := hf.lit 8 (.pointer (some ⟨g8, 0, none⟩)) (by kernel_rfl) (by kernel_rfl); obtain ⟨s8, a8, n8, c8, b8, h8⟩ := (S.mono hE).at 4 (g8) (IsI 12 za) rfl; have L0 := b8.c0; have L1 := b8.c1; clear hd hf; intro K hK; go_simp; exact hK.out _ _ (Ext.refl _) h8 (FreshIf.no rfl) }) ?_
        refine RgAll.cons (by { (with_reducible refine RgL.mkG 31 130 false (by rfl) (by kernel_rfl) (by kernel_rfl) (by kernel_rfl) (by kernel_rfl) (by kernel_rfl) ?_ ?_); (focus (intro _ _ h; exact h)); intro v a w' hE hd hf; have d0 : (IsI 14 (za * 1)) (v 34) w' := hd 34 (by kernel_rfl); have ev0 := hf.val 34 133 _ rfl (by kernel_rfl) (by kernel_rfl) (by kernel_rfl); have d1 : (IsI 12 za) (v 35) w' := hd 35 (by kernel_rfl); have ev1 := hf.val 35 134 _ rfl (by kernel_rfl) (by kernel_rfl) (by kernel_rfl); clear hd hf; intro K hK; go_simp; go_at_call 14; go_split_ands; (with_reducible refine Calls.mono (Same_t d0 d1 (Int.mul_one za) (by decide)) ?_); rintro e w2 ⟨x, rfl, e2, hx⟩; exact hK.out _ _ e2 hx (FreshIf.no rfl) }) ?_
        refine RgAll.cons (by { (with_reducible refine RgL.mkG 31 130 false (by rfl) (by kernel_rfl) (by kernel_rfl) (by kernel_rfl) (by kernel_rfl) (by kernel_rfl) ?_ ?_); (focus (intro _ _ h; exact h)); intro v a w' hE hd hf; have d0 : v 36 = .bool true := hd 36 (by kernel_rfl); have ev0 := hf.val 36 135 _ d0 (by kernel_rfl) (by kernel_rfl) (by kernel_rfl); clear d0; clear hd hf; intro K hK; go_simp; exact hK.out _ _ (Ext.refl _) rfl (FreshIf.no rfl) }) ?_
        refine RgAll.cons (by { (with_reducible refine RgL.mk (by rfl) ?_); intro v a w' hE hd hf; have d0 : v 31 = .bool false := hd 31 (by kernel_rfl); have ev0 := hf.val 31 130 _ d0 (by kernel_rfl) (by kernel_rfl) (by kernel_rfl); clear d0; have d1 : v 37 = .bool false := hd 37 (by kernel_rfl); have ev1 := hf.val 37 136 _ d1 (by kernel_rfl) (by kernel_rfl) (by kernel_rfl); clear d1; clear hd hf; intro K hK; go_simp; exact hK.out _ _ (Ext.refl _) rfl (FreshIf.no rfl) }) ?_
        exact RgAll.nil
      intro v W14 e1 hΦ _
      replace S := S.mono e1
      have v38 : v 38 = .bool false := hΦ 38 (by decide)
      simp only [layL, Act.put, List.setIfInBounds_toArray, List.set_cons_zero, List.set_cons_succ, Nat.reduceAdd]
      rw [v38]
      clear v38
      clear hΦ
      clear e1
      refine wpAny_done (by kernel_rfl) ?_ _
      go_upto_region 19 with (fail)
      refine wp_region_rgs 4 [some 138, some 139, some 140, some 15] [IsI 12 za, IsI 12 zb, IsV (.int .i64 od), IsV (.int .i64 od)] [] (by decide) (by kernel_rfl) (by kernel_rfl) (by kernel_rfl) ?_ ?_ ?_ ?_
      · repeat' (first | exact trivial | exact IsV.stb _ | exact IsI.stb _ _ | exact IsB.stb _ | exact IsR.stb _ _ | exact IsMag.stb _ _ | exact IsPos.stb | apply IsT3.stb | apply IsT2.stb | apply And.intro)
      · exact (fun _ h => by cases h)
      · refine RgAll.cons (by { (with_reducible refine RgL.mk (by rfl) ?_); intro v a w' hE hd hf; have ev0 := hf.lit 8 (.pointer (some ⟨g8, 0, none⟩)) (by kernel_rfl) (by kernel_rfl); obtain ⟨s8, a8, n8, c8, b8, h8⟩ := (S.mono hE).at 4 (g8) (IsI 12 za) rfl; have L0 := b8.c0; have L1 := b8.c1; clear hd hf; intro K hK; go_simp; exact hK.out _ _ (Ext.refl _) h8 (FreshIf.no rfl) }) ?_
        refine RgAll.cons (by { (with_reducible refine RgL.mk (by rfl) ?_); intro v a w' hE hd hf; have ev0 := hf.lit 9 (.pointer (some ⟨g9, 0, none⟩)) (by kernel_rfl) (by kernel_rfl); obtain ⟨s8, a8, n8, c8, b8, h8⟩ := (S.mono hE).at 3 (g9) (IsI 12 zb) rfl; have L0 := b8.c0; have L1 := b8.c1; clear hd hf; intro K hK; go_simp; exact hK.out _ _ (Ext.refl _) h8 (FreshIf.no rfl) }) ?_
        refine RgAll.cons (by { (with_reducible refine RgL.mk (by rfl) ?_); intro v a w' hE hd hf; have d0 : (IsI 12 za) (v 0) w' := hd 0 (by kernel_rfl); have ev0 := hf.val 0 138 _ rfl (by kernel_rfl) (by kernel_rfl) (by kernel_rfl); have d1 : (IsI 12 zb) (v 1) w' := hd 1 (by kernel_rfl); have ev1 := hf.val 1 139 _ rfl (by kernel_rfl) (by kernel_rfl) (by kernel_rfl); clear hd hf; intro K hK; go_simp; go_at_call 16; go_split_ands; (with_reducible refine Calls.mono (Calls.mono (Cmp_f d0 d1 (by decide) (by decide)) fun _ _ h => h.int (HO1.out)) ?_); rintro e w2 ⟨x, rfl, e2, hx⟩; exact hK.out _ _ e2 hx (FreshIf.no rfl) }) ?_
        refine RgAll.cons (by { (with_reducible refine RgL.mk (by rfl) ?_); intro v a w' hE hd hf; have d0 : v 2 = .int .i64 od := hd 2 (by kernel_rfl); have ev0 := hf.val 2 140 _ d0 (by kernel_rfl) (by kernel_rfl) (by kernel_rfl); clear d0; clear hd hf; intro K hK; go_simp; exact hK.out _ _ (Ext.refl _) rfl (FreshIf.no rfl) }) ?_
        exact RgAll.nil
      intro v W15 e1 hΦ _
      replace S := S.mono e1
      have v3 : v 3 = .int .i64 od := hΦ 3 (by decide)
      simp only [layL, Act.put, List.setIfInBounds_toArray, List.set_cons_zero, List.set_cons_succ, Nat.reduceAdd]
      rw [v3]
      clear v3
      clear hΦ
      clear e1
      refine wpList_nil ?_
      go_upto_region 20 with (fail)
      refine wp_region_rg 53 (some 141 :: some 142 :: some 143 :: some 144 :: some 145 :: some 146 :: some 147 :: some 148 :: some 149 :: some 150 :: some 151 :: some 152 :: some 153 :: some 154 :: some 155 :: some 156 :: some 157 :: some 158 :: some 159 :: some 160 :: some 161 :: some 162 :: some 163 :: some 164 :: some 165 :: some 166 :: some 167 :: some 168 :: some 169 :: some 170 :: some 171 :: some 172 :: some 173 :: some 174 :: some 175 :: some 176 :: some 177 :: some 178 :: some 179 :: some 180 :: some 181 :: some 182 :: some 183 :: some 184 :: some 185 :: some 186 :: some 187 :: some 188 :: some 189 :: some 190 :: some 191 :: some 192 :: some 6 :: []) (IsV (.bool true) :: IsV (.bool true) :: IsV (.int .i64 od) :: IsI 12 za :: IsI 12 zc :: IsI 13 (za + zc) :: IsI 12 zb :: IsI 12 zc :: IsI 13 (zb + zc) :: IsV (.int .i64 od) :: IsV (.bool true) :: IsV (.bool true) :: IsV (.bool true) :: IsV (.int .i64 od) :: IsI 12 zb :: IsI 12 za :: IsV (.int .i64 on) :: IsV (.int .i64 od) :: IsV (.bool true) :: IsV (.bool true) :: IsV (.bool true) :: IsV (.int .i64 od) :: IsI 12 zc :: IsV (.int .i64 sc) :: IsV (.int .i64 os) :: IsI 12 za :: IsI 12 zc :: IsI 24 (za * zc) :: IsI 12 zb :: IsI 12 zc :: IsI 24 (zb * zc) :: IsV (.int .i64 os) :: IsV (.bool true) :: IsV (.bool true) :: IsV (.bool true) :: IsI 24 (za * zb) :: IsV (.int .i64 sp) :: IsI 12 za :: IsV (.int .i64 sa) :: IsI 12 zb :: IsV (.int .i64 sb) :: IsV (.int .i64 sp) :: IsV (.bool true) :: IsV (.bool true) :: IsV (.bool true) :: IsV (.int .i64 od) :: IsI 12 za :: IsI 12 zb :: IsI 13 (za - zb) :: IsV (.int .i64 od) :: IsV (.bool true) :: IsV (.bool true) :: IsV (.bool true) :: []) [] 0 (by kernel_rfl) (by decide) (by kernel_rfl) (by kernel_rfl) (by kernel_rfl) (by kernel_rfl) (by kernel_rfl) ?_ ?_ ?_ ?_
      · repeat' (first | exact trivial | exact IsV.stb _ | exact IsI.stb _ _ | exact IsB.stb _ | exact IsR.stb _ _ | exact IsMag.stb _ _ | exact IsPos.stb | apply IsT3.stb | apply IsT2.stb | apply And.intro)
      · exact (fun _ h => by cases h)
      · refine RgAll.cons (by { (with_reducible refine RgL.mk (by rfl) ?_); intro v a w' hE hd hf; have ev0 := hf.lit 7 (.bool true) (by kernel_rfl) (by kernel_rfl); clear hd hf; intro K hK; go_simp; exact hK.out _ _ (Ext.refl _) rfl (FreshIf.no rfl) }) ?_
        refine RgAll.cons (by { (with_reducible refine RgL.mk (by rfl) ?_); intro v a w' hE hd hf; have d0 : v 0 = .bool true := hd 0 (by kernel_rfl); have ev0 := hf.val 0 141 _ d0 (by kernel_rfl) (by kernel_rfl) (by kernel_rfl); clear d0; clear hd hf; intro K hK; go_simp; exact hK.out _ _ (Ext.refl _) rfl (FreshIf.no rfl) }) ?_
        refine RgAll.cons (by { (with_reducible refine RgL.mkG 1 142 true (by rfl) (by kernel_rfl) (by kernel_rfl) (by kernel_rfl) (by kernel_rfl) (by kernel_rfl) ?_ ?_); (focus (intro _ _ h; exact h)); intro v a w' hE hd hf; have ev0 := hf.lit 15 (.int .i64 od) (by kernel_rfl) (by kernel_rfl); clear hd hf; intro K hK; go_simp; exact hK.out _ _ (Ext.refl _) rfl (FreshIf.no rfl) }) ?_
        refine RgAll.cons (by { (with_reducible refine RgL.mkG 1 142 true (by rfl) (by kernel_rfl) (by kernel_rfl) (by kernel_rfl) (by kernel_rfl) (by kernel_rfl) ?_ ?_); (focus (intro _ _ h; exact h)); intro v a w' hE hd hf; have ev0 := hf.lit 8 (.pointer (some ⟨g8, 0, none⟩)) (by kernel_rfl) (by kernel_rfl); obtain ⟨s8, a8, n8, c8, b8, h8⟩ := (S.mono hE).at 4 (g8) (IsI 12 za) rfl; have L0 := b8.c0; have L1 := b8.c1; clear hd hf; intro K hK; go_simp; exact hK.out _ _ (Ext.refl _) h8 (FreshIf.no rfl) }) ?_
        refine RgAll.cons (by { (with_reducible refine RgL.mkG 1 142 true (by rfl) (by kernel_rfl) (by kernel_rfl) (by kernel_rfl) (by kernel_rfl) (by kernel_rfl) ?_ ?_); (focus (intro _ _ h; exact h)); intro v a w' hE hd hf; have ev0 := hf.lit 10 (.pointer (some ⟨g10, 0, none⟩)) (by kernel_rfl) (by kernel_rfl); obtain ⟨s8, a8, n8, c8, b8, h8⟩ := (S.mono hE).at 2 (g10) (IsI 12 zc) rfl; have L0 := b8.c0; have L1 := b8.c1; clear hd hf; intro K hK; go_simp; exact hK.out _ _ (Ext.refl _) h8 (FreshIf.no rfl) }) ?_
        refine RgAll.cons (by { (with_reducible refine RgL.mkG 1 142 true (by rfl) (by kernel_rfl) (by kernel_rfl) (by kernel_rfl) (by kernel_rfl) (by kernel_rfl) ?_ ?_); (focus (intro _ _ h; exact h)); intro v a w' hE hd hf; have d0 : (IsI 12 za) (v 3) w' := hd 3 (by kernel_rfl); have ev0 := hf.val 3 144 _ rfl (by kernel_rfl) (by kernel_rfl) (by kernel_rfl); have d1 : (IsI 12 zc) (v 4) w' := hd 4 (by kernel_rfl); have ev1 := hf.val 4 145 _ rfl (by kernel_rfl) (by kernel_rfl) (by kernel_rfl); clear hd hf; intro K hK; go_simp; go_at_call 12; go_split_ands; (with_reducible refine Calls.mono (Add_f d0 d1 (by decide) (by decide)) ?_); rintro e w2 ⟨x, rfl, e2, hx⟩; exact hK.out _ _ e2 hx (FreshIf.no rfl) }) ?_
        refine RgAll.cons (by { (with_reducible refine RgL.mkG 1 142 true (by rfl) (by kernel_rfl) (by kernel_rfl) (by kernel_rfl) (by kernel_rfl) (by kernel_rfl) ?_ ?_); (focus (intro _ _ h; exact h)); intro v a w' hE hd hf; have ev0 := hf.lit 9 (.pointer (some ⟨g9, 0, none⟩)) (by kernel_rfl) (by kernel_rfl); obtain ⟨s8, a8, n8, c8, b8, h8⟩ := (S.mono hE).at 3 (g9) (IsI 12 zb) rfl; have L0 := b8.c0; have L1 := b8.c1; clear hd hf; intro K hK; go_simp; exact hK.out _ _ (Ext.refl _) h8 (FreshIf.no rfl) }) ?_
        refine RgAll.cons (by { (with_reducible refine RgL.mkG 1 142 true (by rfl) (by kernel_rfl) (by kernel_rfl) (by kernel_rfl) (by kernel_rfl) (by kernel_rfl) ?_ ?_); (focus (intro _ _ h; exact h)); intro v a w' hE hd hf; have ev0 := hf.lit 10 (.pointer (some ⟨g10, 0, none⟩)) (by kernel_rfl) (by kernel_rfl); obtain ⟨s8, a8, n8, c8, b8, h8⟩ := (S.mono hE).at 2 (g10) (IsI 12 zc) rfl; have L0 := b8.c0; have L1 := b8.c1; clear hd hf; intro K hK; go_simp; exact hK.out _ _ (Ext.refl _) h8 (FreshIf.no rfl) }) ?_
        refine RgAll.cons (by { (with_reducible refine RgL.mkG 1 142 true (by rfl) (by kernel_rfl) (by kernel_rfl) (by kernel_rfl) (by kernel_rfl) (by kernel_rfl) ?_ ?_); (focus (intro _ _ h; exact h)); intro v a w' hE hd hf; have d0 : (IsI 12 zb) (v 6) w' := hd 6 (by kernel_rfl); have ev0 := hf.val 6 147 _ rfl (by kernel_rfl) (by kernel_rfl) (by kernel_rfl); have d1 : (IsI 12 zc) (v 7) w' := hd 7 (by kernel_rfl); have ev1 := hf.val 7 148 _ rfl (by kernel_rfl) (by kernel_rfl) (by kernel_rfl); clear hd hf; intro K hK; go_simp; go_at_call 12; go_split_ands; (with_reducible refine Calls.mono (Add_f d0 d1 (by decide) (by decide)) ?_); rintro e w2 ⟨x, rfl, e2, hx⟩; exact hK.out _ _ e2 hx (FreshIf.no rfl) }) ?_
        refine RgAll.cons (by { (with_reducible refine RgL.mkG 1 142 true (by rfl) (by kernel_rfl) (by kernel_rfl) (by kernel_rfl) (by kernel_rfl) (by kernel_rfl) ?_ ?_); (focus (intro _ _ h; exact h)); intro v a w' hE hd hf; have d0 : (IsI 13 (za + zc)) (v 5) w' := hd 5 (by kernel_rfl); have ev0 := hf.val 5 146 _ rfl (by kernel_rfl) (by kernel_rfl) (by kernel_rfl); have d1 : (IsI 13 (zb + zc)) (v 8) w' := hd 8 (by kernel_rfl); have ev1 := hf.val 8 149 _ rfl (by kernel_rfl) (by kernel_rfl) (by kernel_rfl); clear hd hf; intro K hK; go_simp; go_at_call 16; go_split_ands; (with_reducible refine Calls.mono (Calls.mono (Cmp_f d0 d1 (by decide) (by decide)) fun _ _ h => h.int (HO2.out)) ?_); rintro e w2 ⟨x, rfl, e2, hx⟩; exact hK.out _ _ e2 hx (FreshIf.no rfl) }) ?_
        refine RgAll.cons (by { (with_reducible refine RgL.mkG 1 142 true (by rfl) (by kernel_rfl) (by kernel_rfl) (by kernel_rfl) (by kernel_rfl) (by kernel_rfl) ?_ ?_); (focus (intro _ _ h; exact h)); intro v a w' hE hd hf; have d0 : v 2 = .int .i64 od := hd 2 (by kernel_rfl); have ev0 := hf.val 2 143 _ d0 (by kernel_rfl) (by kernel_rfl) (by kernel_rfl); clear d0; have d1 : v 9 = .int .i64 od := hd 9 (by kernel_rfl); have ev1 := hf.val 9 150 _ d1 (by kernel_rfl) (by kernel_rfl) (by kernel_rfl); clear d1; clear hd hf; intro K hK; go_simp; exact hK.out _ _ (Ext.refl _) rfl (FreshIf.no rfl) }) ?_
        refine RgAll.cons (by { (with_reducible refine RgL.mk (by rfl) ?_); intro v a w' hE hd hf; have d0 : v 1 = .bool true := hd 1 (by kernel_rfl); have ev0 := hf.val 1 142 _ d0 (by kernel_rfl) (by kernel_rfl) (by kernel_rfl); clear d0; have d1 : v 10 = .bool true := hd 10 (by kernel_rfl); have ev1 := hf.val 10 151 _ d1 (by kernel_rfl) (by kernel_rfl) (by kernel_rfl); clear d1; clear hd hf; intro K hK; go_simp; exact hK.out _ _ (Ext.refl _) rfl (FreshIf.no rfl) }) ?_
        refine RgAll.cons (by { (with_reducible refine RgL.mk (by rfl) ?_); intro v a w' hE hd hf; have d0 : v 11 = .bool true := hd 11 (by kernel_rfl); have ev0 := hf.val 11 152 _ d0 (by kernel_rfl) (by kernel_rfl) (by kernel_rfl); clear d0; clear hd hf; intro K hK; go_simp; exact hK.out _ _ (Ext.refl _) rfl (FreshIf.no rfl) }) ?_
        refine RgAll.cons (by { (with_reducible refine RgL.mkG 12 153 true (by rfl) (by kernel_rfl) (by kernel_rfl) (by kernel_rfl) (by kernel_rfl) (by kernel_rfl) ?_ ?_); (focus (intro _ _ h; exact h)); intro v a w' hE hd hf; have ev0 := hf.lit 15 (.int .i64 od) (by kernel_rfl) (by kernel_rfl); clear hd hf; intro K hK; go_simp; exact hK.out _ _ (Ext.refl _) rfl (FreshIf.no rfl) }) ?_
        refine RgAll.cons (by { (with_reducible refine RgL.mkG 12 153 true (by rfl) (by kernel_rfl) (by kernel_rfl) (by kernel_rfl) (by kernel_rfl) (by kernel_rfl) ?_ ?_); (focus (intro _ _ h; exact h)); intro v a w' hE hd hf; have ev0 := hf.lit 9 (.pointer (some ⟨g9, 0, none⟩)) (by kernel_rfl) (by kernel_rfl); obtain ⟨s8, a8, n8, c8, b8, h8⟩ := (S.mono hE).at 3 (g9) (IsI 12 zb) rfl; have L0 := b8.c0; have L1 := b8.c1; clear hd hf; intro K hK; go_simp; exact hK.out _ _ (Ext.refl _) h8 (FreshIf.no rfl) }) ?_
        refine RgAll.cons (by { (with_reducible refine RgL.mkG 12 153 true (by rfl) (by kernel_rfl) (by kernel_rfl) (by kernel_rfl) (by kernel_rfl) (by kernel_rfl) ?_ ?_); (focus (intro _ _ h; exact h)); intro v a w' hE hd hf; have ev0 := hf.lit 8 (.pointer (some ⟨g8, 0, none⟩)) (by kernel_rfl) (by kernel_rfl); obtain ⟨s8, a8, n8, c8, b8, h8⟩ := (S.mono hE).at 4 (g8) (IsI 12 za) rfl; have L0 := b8.c0; have L1 := b8.c1; clear hd hf; intro K hK; go_simp; exact hK.out _ _ (Ext.refl _) h8 (FreshIf.no rfl) }) ?_
        refine RgAll.cons (by { (with_reducible refine RgL.mkG 12 153 true (by rfl) (by kernel_rfl) (by kernel_rfl) (by kernel_rfl) (by kernel_rfl) (by kernel_rfl) ?_ ?_); (focus (intro _ _ h; exact h)); intro v a w' hE hd hf; have d0 : (IsI 12 zb) (v 14) w' := hd 14 (by kernel_rfl); have ev0 := hf.val 14 155 _ rfl (by kernel_rfl) (by kernel_rfl) (by kernel_rfl); have d1 : (IsI 12 za) (v 15) w' := hd 15 (by kernel_rfl); have ev1 := hf.val 15 156 _ rfl (by kernel_rfl) (by kernel_rfl) (by kernel_rfl); clear hd hf; intro K hK; go_simp; go_at_call 16; go_split_ands; (with_reducible refine Calls.mono (Calls.mono (Cmp_f d0 d1 (by decide) (by decide)) fun _ _ h => h.int (HO3.out)) ?_); rintro e w2 ⟨x, rfl, e2, hx⟩; exact hK.out _ _ e2 hx (FreshIf.no rfl) }) ?_
        refine RgAll.cons (by { (with_reducible refine RgL.mkG 12 153 true (by rfl) (by kernel_rfl) (by kernel_rfl) (by kernel_rfl) (by kernel_rfl) (by kernel_rfl) ?_ ?_); (focus (intro _ _ h; exact h)); intro v a w' hE hd hf; have d0 : v 16 = .int .i64 on := hd 16 (by kernel_rfl); have ev0 := hf.val 16 157 _ d0 (by kernel_rfl) (by kernel_rfl) (by kernel_rfl); clear d0; have hw9 := HO4.out; clear hd hf; intro K hK; go_simp; exact hK.out _ _ (Ext.refl _) rfl (FreshIf.no rfl) }) ?_
        refine RgAll.cons (by { (with_reducible refine RgL.mkG 12 153 true (by rfl) (by kernel_rfl) (by kernel_rfl) (by kernel_rfl) (by kernel_rfl) (by kernel_rfl) ?_ ?_); (focus (intro _ _ h; exact h)); intro v a w' hE hd hf; have d0 : v 13 = .int .i64 od := hd 13 (by kernel_rfl); have ev0 := hf.val 13 154 _ d0 (by kernel_rfl) (by kernel_rfl) (by kernel_rfl); clear d0; have d1 : v 17 = .int .i64 od := hd 17 (by kernel_rfl); have ev1 := hf.val 17 158 _ d1 (by kernel_rfl) (by kernel_rfl) (by kernel_rfl); clear d1; clear hd hf; intro K hK; go_simp; exact hK.out _ _ (Ext.refl _) rfl (FreshIf.no rfl) }) ?_
        refine RgAll.cons (by { (with_reducible refine RgL.mk (by rfl) ?_); intro v a w' hE hd hf; have d0 : v 12 = .bool true := hd 12 (by kernel_rfl); have ev0 := hf.val 12 153 _ d0 (by kernel_rfl) (by kernel_rfl) (by kernel_rfl); clear d0; have d1 : v 18 = .bool true := hd 18 (by kernel_rfl); have ev1 := hf.val 18 159 _ d1 (by kernel_rfl) (by kernel_rfl) (by kernel_rfl); clear d1; clear hd hf; intro K hK; go_simp; exact hK.out _ _ (Ext.refl _) rfl (FreshIf.no rfl) }) ?_
        refine RgAll.cons (by { (with_reducible refine RgL.mk (by rfl) ?_); intro v a w' hE hd hf; have d0 : v 19 = .bool true := hd 19 (by kernel_rfl); have ev0 := hf.val 19 160 _ d0 (by kernel_rfl) (by kernel_rfl) (by kernel_rfl); clear d0; clear hd hf; intro K hK; go_simp; exact hK.out _ _ (Ext.refl _) rfl (FreshIf.no rfl) }) ?_
        refine RgAll.cons (by { (with_reducible refine RgL.mkG 20 161 true (by rfl) (by kernel_rfl) (by kernel_rfl) (by kernel_rfl) (by kernel_rfl) (by kernel_rfl) ?_ ?_); (focus (intro _ _ h; exact h)); intro v a w' hE hd hf; have ev0 := hf.lit 15 (.int .i64 od) (by kernel_rfl) (by kernel_rfl); clear hd hf; intro K hK; go_simp; exact hK.out _ _ (Ext.refl _) rfl (FreshIf.no rfl) }) ?_
        refine RgAll.cons (by { (with_reducible refine RgL.mkG 20 161 true (by rfl) (by kernel_rfl) (by kernel_rfl) (by kernel_rfl) (by kernel_rfl) (by kernel_rfl) ?_ ?_); (focus (intro _ _ h; exact h)); intro v a w' hE hd hf; have ev0 := hf.lit 10 (.pointer (some ⟨g10, 0, none⟩)) (by kernel_rfl) (by kernel_rfl); obtain ⟨s8, a8, n8, c8, b8, h8⟩ := (S.mono hE).at 2 (g10) (IsI 12 zc) rfl; have L0 := b8.c0; have L1 := b8.c1; clear hd hf; intro K hK; go_simp; exact hK.out _ _ (Ext.refl _) h8 (FreshIf.no rfl) }) ?_
        refine RgAll.cons (by { (with_reducible refine RgL.mkG 20 161 true (by rfl) (by kernel_rfl) (by kernel_rfl) (by kernel_rfl) (by kernel_rfl) (by kernel_rfl) ?_ ?_); (focus (intro _ _ h; exact h)); intro v a w' hE hd hf; have d0 : (IsI 12 zc) (v 22) w' := hd 22 (by kernel_rfl); have ev0 := hf.val 22 163 _ rfl (by kernel_rfl) (by kernel_rfl) (by kernel_rfl); clear hd hf; intro K hK; go_simp; go_at_call 15; go_split_ands; (with_reducible refine Calls.mono (Calls.mono (Sign_f d0) fun _ _ h => h.int (HSc.out)) ?_); rintro e w2 ⟨x, rfl, e2, hx⟩; exact hK.out _ _ e2 hx (FreshIf.no rfl) }) ?_
        refine RgAll.cons (by { (with_reducible refine RgL.mkG 20 161 true (by rfl) (by kernel_rfl) (by kernel_rfl) (by kernel_rfl) (by kernel_rfl) (by kernel_rfl) ?_ ?_); (focus (intro _ _ h; exact h)); intro v a w' hE hd hf; have d0 : v 21 = .int .i64 od := hd 21 (by kernel_rfl); have ev0 := hf.val 21 162 _ d0 (by kernel_rfl) (by kernel_rfl) (by kernel_rfl); clear d0; have d1 : v 23 = .int .i64 sc := hd 23 (by kernel_rfl); have ev1 := hf.val 23 164 _ d1 (by kernel_rfl) (by kernel_rfl) (by kernel_rfl); clear d1; have hw9 := HO6.out; clear hd hf; intro K hK; go_simp; exact hK.out _ _ (Ext.refl _) rfl (FreshIf.no rfl) }) ?_
        refine RgAll.cons (by { (with_reducible refine RgL.mkG 20 161 true (by rfl) (by kernel_rfl) (by kernel_rfl) (by kernel_rfl) (by kernel_rfl) (by kernel_rfl) ?_ ?_); (focus (intro _ _ h; exact h)); intro v a w' hE hd hf; have ev0 := hf.lit 8 (.pointer (some ⟨g8, 0, none⟩)) (by kernel_rfl) (by kernel_rfl); obtain ⟨s8, a8, n8, c8, b8, h8⟩ := (S.mono hE).at 4 (g8) (IsI 12 za) rfl; have L0 := b8.c0; have L1 := b8.c1; clear hd hf; intro K hK; go_simp; exact hK.out _ _ (Ext.refl _) h8 (FreshIf.no rfl) }) ?_
        refine RgAll.cons (by { (with_reducible refine RgL.mkG 20 161 true (by rfl) (by kernel_rfl) (by kernel_rfl) (by kernel_rfl) (by kernel_rfl) (by kernel_rfl) ?_ ?_); (focus (intro _ _ h; exact h)); intro v a w' hE hd hf; have ev0 := hf.lit 10 (.pointer (some ⟨g10, 0, none⟩)) (by kernel_rfl) (by kernel_rfl); obtain ⟨s8, a8, n8, c8, b8, h8⟩ := (S.mono hE).at 2 (g10) (IsI 12 zc) rfl; have L0 := b8.c0; have L1 := b8.c1; clear hd hf; intro K hK; go_simp; exact hK.out _ _ (Ext.refl _) h8 (FreshIf.no rfl) }) ?_
        refine RgAll.cons (by { (with_reducible refine RgL.mkG 20 161 true (by rfl) (by kernel_rfl) (by kernel_rfl) (by kernel_rfl) (by kernel_rfl) (by kernel_rfl) ?_ ?_); (focus (intro _ _ h; exact h)); intro v a w' hE hd hf; have d0 : (IsI 12 za) (v 25) w' := hd 25 (by kernel_rfl); have ev0 := hf.val 25 166 _ rfl (by kernel_rfl) (by kernel_rfl) (by kernel_rfl); have d1 : (IsI 12 zc) (v 26) w' := hd 26 (by kernel_rfl); have ev1 := hf.val 26 167 _ rfl (by kernel_rfl) (by kernel_rfl) (by kernel_rfl); clear hd hf; intro K hK; go_simp; go_at_call 13; go_split_ands; (with_reducible refine Calls.mono (Mul_f d0 d1 (by decide) (by decide)) ?_); rintro e w2 ⟨x, rfl, e2, hx⟩; exact hK.out _ _ e2 hx (FreshIf.no rfl) }) ?_
        refine RgAll.cons (by { (with_reducible refine RgL.mkG 20 161 true (by rfl) (by kernel_rfl) (by kernel_rfl) (by kernel_rfl) (by kernel_rfl) (by kernel_rfl) ?_ ?_); (focus (intro _ _ h; exact h)); intro v a w' hE hd hf; have ev0 := hf.lit 9 (.pointer (some ⟨g9, 0, none⟩)) (by kernel_rfl) (by kernel_rfl); obtain ⟨s8, a8, n8, c8, b8, h8⟩ := (S.mono hE).at 3 (g9) (IsI 12 zb) rfl; have L0 := b8.c0; have L1 := b8.c1; clear hd hf; intro K hK; go_simp; exact hK.out _ _ (Ext.refl _) h8 (FreshIf.no rfl) }) ?_
        refine RgAll.cons (by { (with_reducible refine RgL.mkG 20 161 true (by rfl) (by kernel_rfl) (by kernel_rfl) (by kernel_rfl) (by kernel_rfl) (by kernel_rfl) ?_ ?_); (focus (intro _ _ h; exact h)); intro v a w' hE hd hf; have ev0 := hf.lit 10 (.pointer (some ⟨g10, 0, none⟩)) (by kernel_rfl) (by kernel_rfl); obtain ⟨s8, a8, n8, c8, b8, h8⟩ := (S.mono hE).at 2 (g10) (IsI 12 zc) rfl; have L0 := b8.c0; have L1 := b8.c1; clear hd hf; intro K hK; go_simp; exact hK.out _ _ (Ext.refl _) h8 (FreshIf.no rfl) }) ?_
        refine RgAll.cons (by { (with_reducible refine RgL.mkG 20 161 true (by rfl) (by kernel_rfl) (by kernel_rfl) (by kernel_rfl) (by kernel_rfl) (by kernel_rfl) ?_ ?_); (focus (intro _ _ h; exact h)); intro v a w' hE hd hf; have d0 : (IsI 12 zb) (v 28) w' := hd 28 (by kernel_rfl); have ev0 := hf.val 28 169 _ rfl (by kernel_rfl) (by kernel_rfl) (by kernel_rfl); have d1 : (IsI 12 zc) (v 29) w' := hd 29 (by kernel_rfl); have ev1 := hf.val 29 170 _ rfl (by kernel_rfl) (by kernel_rfl) (by kernel_rfl); clear hd hf; intro K hK; go_simp; go_at_call 13; go_split_ands; (with_reducible refine Calls.mono (Mul_f d0 d1 (by decide) (by decide)) ?_); rintro e w2 ⟨x, rfl, e2, hx⟩; exact hK.out _ _ e2 hx (FreshIf.no rfl) }) ?_
        refine RgAll.cons (by { (with_reducible refine RgL.mkG 20 161 true (by rfl) (by kernel_rfl) (by kernel_rfl) (by kernel_rfl) (by kernel_rfl) (by kernel_rfl) ?_ ?_); (focus (intro _ _ h; exact h)); intro v a w' hE hd hf; have d0 : (IsI 24 (za * zc)) (v 27) w' := hd 27 (by kernel_rfl); have ev0 := hf.val 27 168 _ rfl (by kernel_rfl) (by kernel_rfl) (by kernel_rfl); have d1 : (IsI 24 (zb * zc)) (v 30) w' := hd 30 (by kernel_rfl); have ev1 := hf.val 30 171 _ rfl (by kernel_rfl) (by kernel_rfl) (by kernel_rfl); clear hd hf; intro K hK; go_simp; go_at_call 16; go_split_ands; (with_reducible refine Calls.mono (Calls.mono (Cmp_f d0 d1 (by decide) (by decide)) fun _ _ h => h.int (HO5.out)) ?_); rintro e w2 ⟨x, rfl, e2, hx⟩; exact hK.out _ _ e2 hx (FreshIf.no rfl) }) ?_
        refine RgAll.cons (by { (with_reducible refine RgL.mkG 20 161 true (by rfl) (by kernel_rfl) (by kernel_rfl) (by kernel_rfl) (by kernel_rfl) (by kernel_rfl) ?_ ?_); (focus (intro _ _ h; exact h)); intro v a w' hE hd hf; have d0 : v 24 = .int .i64 os := hd 24 (by kernel_rfl); have ev0 := hf.val 24 165 _ d0 (by kernel_rfl) (by kernel_rfl) (by kernel_rfl); clear d0; have d1 : v 31 = .int .i64 os := hd 31 (by kernel_rfl); have ev1 := hf.val 31 172 _ d1 (by kernel_rfl) (by kernel_rfl) (by kernel_rfl); clear d1; clear hd hf; intro K hK; go_simp; exact hK.out _ _ (Ext.refl _) rfl (FreshIf.no rfl) }) ?_
        refine RgAll.cons (by { (with_reducible refine RgL.mk (by rfl) ?_); intro v a w' hE hd hf; have d0 : v 20 = .bool true := hd 20 (by kernel_rfl); have ev0 := hf.val 20 161 _ d0 (by kernel_rfl) (by kernel_rfl) (by kernel_rfl); clear d0; have d1 : v 32 = .bool true := hd 32 (by kernel_rfl); have ev1 := hf.val 32 173 _ d1 (by kernel_rfl) (by kernel_rfl) (by kernel_rfl); clear d1; clear hd hf; intro K hK; go_simp; exact hK.out _ _ (Ext.refl _) rfl (FreshIf.no rfl) }) ?_
        refine RgAll.cons (by { (with_reducible refine RgL.mk (by rfl) ?_); intro v a w' hE hd hf; have d0 : v 33 = .bool true := hd 33 (by kernel_rfl); have ev0 := hf.val 33 174 _ d0 (by kernel_rfl) (by kernel_rfl) (by kernel_rfl); clear d0; clear hd hf; intro K hK; go_simp; exact hK.out _ _ (Ext.refl _) rfl (FreshIf.no rfl) }) ?_
        refine RgAll.cons (by { (with_reducible refine RgL.mkG 34 175 true (by rfl) (by kernel_rfl) (by kernel_rfl) (by kernel_rfl) (by kernel_rfl) (by kernel_rfl) ?_ ?_); (focus (intro _ _ h; exact h)); intro v a w' hE hd hf; have ev0 := hf.lit 12 (.pointer (some ⟨g12, 0, none⟩)) (by kernel_rfl) (by kernel_rfl); obtain ⟨s8, a8, n8, c8, b8, h8⟩ := (S.mono hE).at 0 (g12) (IsI 24 (za * zb)) rfl; have L0 := b8.c0; have L1 := b8.c1; clear hd hf; intro K hK; go_simp; exact hK.out _ _ (Ext.refl _) h8 (FreshIf.no rfl) }) ?_
        refine RgAll.cons (by { (with_reducible refine RgL.mkG 34 175 true (by rfl) (by kernel_rfl) (by kernel_rfl) (by kernel_rfl) (by kernel_rfl) (by kernel_rfl) ?_ ?_); (focus (intro _ _ h; exact h)); intro v a w' hE hd hf; have d0 : (IsI 24 (za * zb)) (v 35) w' := hd 35 (by kernel_rfl); have ev0 := hf.val 35 176 _ rfl (by kernel_rfl) (by kernel_rfl) (by kernel_rfl); clear hd hf; intro K hK; go_simp; go_at_call 15; go_split_ands; (with_reducible refine Calls.mono (Calls.mono (Sign_f d0) fun _ _ h => h.int (HSp.out)) ?_); rintro e w2 ⟨x, rfl, e2, hx⟩; exact hK.out _ _ e2 hx (FreshIf.no rfl) }) ?_
        refine RgAll.cons (by { (with_reducible refine RgL.mkG 34 175 true (by rfl) (by kernel_rfl) (by kernel_rfl) (by kernel_rfl) (by kernel_rfl) (by kernel_rfl) ?_ ?_); (focus (intro _ _ h; exact h)); intro v a w' hE hd hf; have ev0 := hf.lit 8 (.pointer (some ⟨g8, 0, none⟩)) (by kernel_rfl) (by kernel_rfl); obtain ⟨s8, a8, n8, c8, b8, h8⟩ := (S.mono hE).at 4 (g8) (IsI 12 za) rfl; have L0 := b8.c0; have L1 := b8.c1; clear hd hf; intro K hK; go_simp; exact hK.out _ _ (Ext.refl _) h8 (FreshIf.no rfl) }) ?_
        refine RgAll.cons (by { (with_reducible refine RgL.mkG 34 175 true (by rfl) (by kernel_rfl) (by kernel_rfl) (by kernel_rfl) (by kernel_rfl) (by kernel_rfl) ?_ ?_); (focus (intro _ _ h; exact h)); intro v a w' hE hd hf; have d0 : (IsI 12 za) (v 37) w' := hd 37 (by kernel_rfl); have ev0 := hf.val 37 178 _ rfl (by kernel_rfl) (by kernel_rfl) (by kernel_rfl); clear hd hf; intro K hK; go_simp; go_at_call 15; go_split_ands; (with_reducible refine Calls.mono (Calls.mono (Sign_f d0) fun _ _ h => h.int (HSa.out)) ?_); rintro e w2 ⟨x, rfl, e2, hx⟩; exact hK.out _ _ e2 hx (FreshIf.no rfl) }) ?_
        refine RgAll.cons (by { (with_reducible refine RgL.mkG 34 175 true (by rfl) (by kernel_rfl) (by kernel_rfl) (by kernel_rfl) (by kernel_rfl) (by kernel_rfl) ?_ ?_); (focus (intro _ _ h; exact h)); intro v a w' hE hd hf; have ev0 := hf.lit 9 (.pointer (some ⟨g9, 0, none⟩)) (by kernel_rfl) (by kernel_rfl); obtain ⟨s8, a8, n8, c8, b8, h8⟩ := (S.mono hE).at 3 (g9) (IsI 12 zb) rfl; have L0 := b8.c0; have L1 := b8.c1; clear hd hf; intro K hK; go_simp; exact hK.out _ _ (Ext.refl _) h8 (FreshIf.no rfl) }) ?_
        refine RgAll.cons (by { (with_reducible refine RgL.mkG 34 175 true (by rfl) (by kernel_rfl) (by kernel_rfl) (by kernel_rfl) (by kernel_rfl) (by kernel_rfl) ?_ ?_); (focus (intro _ _ h; exact h)); intro v a w' hE hd hf; have d0 : (IsI 12 zb) (v 39) w' := hd 39 (by kernel_rfl); have ev0 := hf.val 39 180 _ rfl (by kernel_rfl) (by kernel_rfl) (by kernel_rfl); clear hd hf; intro K hK; go_simp; go_at_call 15; go_split_ands; (with_reducible refine Calls.mono (Calls.mono (Sign_f d0) fun _ _ h => h.int (HSb.out)) ?_); rintro e w2 ⟨x, rfl, e2, hx⟩; exact hK.out _ _ e2 hx (FreshIf.no rfl) }) ?_
        refine RgAll.cons (by { (with_reducible refine RgL.mkG 34 175 true (by rfl) (by kernel_rfl) (by kernel_rfl) (by kernel_rfl) (by kernel_rfl) (by kernel_rfl) ?_ ?_); (focus (intro _ _ h; exact h)); intro v a w' hE hd hf; have d0 : v 38 = .int .i64 sa := hd 38 (by kernel_rfl); have ev0 := hf.val 38 179 _ d0 (by kernel_rfl) (by kernel_rfl) (by kernel_rfl); clear d0; have d1 : v 40 = .int .i64 sb := hd 40 (by kernel_rfl); have ev1 := hf.val 40 181 _ d1 (by kernel_rfl) (by kernel_rfl) (by kernel_rfl); clear d1; have hw9 := HO7.out; clear hd hf; intro K hK; go_simp; exact hK.out _ _ (Ext.refl _) rfl (FreshIf.no rfl) }) ?_
        refine RgAll.cons (by { (with_reducible refine RgL.mkG 34 175 true (by rfl) (by kernel_rfl) (by kernel_rfl) (by kernel_rfl) (by kernel_rfl) (by kernel_rfl) ?_ ?_); (focus (intro _ _ h; exact h)); intro v a w' hE hd hf; have d0 : v 36 = .int .i64 sp := hd 36 (by kernel_rfl); have ev0 := hf.val 36 177 _ d0 (by kernel_rfl) (by kernel_rfl) (by kernel_rfl); clear d0; have d1 : v 41 = .int .i64 sp := hd 41 (by kernel_rfl); have ev1 := hf.val 41 182 _ d1 (by kernel_rfl) (by kernel_rfl) (by kernel_rfl); clear d1; clear hd hf; intro K hK; go_simp; exact hK.out _ _ (Ext.refl _) rfl (FreshIf.no rfl) }) ?_
        refine RgAll.cons (by { (with_reducible refine RgL.mk (by rfl) ?_); intro v a w' hE hd hf; have d0 : v 34 = .bool true := hd 34 (by kernel_rfl); have ev0 := hf.val 34 175 _ d0 (by kernel_rfl) (by kernel_rfl) (by kernel_rfl); clear d0; have d1 : v 42 = .bool true := hd 42 (by kernel_rfl); have ev1 := hf.val 42 183 _ d1 (by kernel_rfl) (by kernel_rfl) (by kernel_rfl); clear d1; clear hd hf; intro K hK; go_simp; exact hK.out _ _ (Ext.refl _) rfl (FreshIf.no rfl) }) ?_
        refine RgAll.cons (by { (with_reducible refine RgL.mk (by rfl) ?_); intro v a w' hE hd hf; have d0 : v 43 = .bool true := hd 43 (by kernel_rfl); have ev0 := hf.val 43 184 _ d0 (by kernel_rfl) (by kernel_rfl) (by kernel_rfl); clear d0; clear hd hf; intro K hK; go_simp; exact hK.out _ _ (Ext.refl _) rfl (FreshIf.no rfl) }) ?_
        refine RgAll.cons (by { (with_reducible refine RgL.mkG 44 185 true (by rfl) (by kernel_rfl) (by kernel_rfl) (by kernel_rfl) (by kernel_rfl) (by kernel_rfl) ?_ ?_); (focus (intro _ _ h; exact h)); intro v a w' hE hd hf; have ev0 := hf.lit 15 (.int .i64 od) (by kernel_rfl) (by kernel_rfl); clear hd hf; intro K hK; go_simp; exact hK.out _ _ (Ext.refl _) rfl (FreshIf.no rfl) }) ?_
        refine RgAll.cons (by { (with_reducible refine RgL.mkG 44 185 true (by rfl) (by kernel_rfl) (by kernel_rfl) (by kernel_rfl) (by kernel_rfl) (by kernel_rfl) ?_ ?_); (focus (intro _ _ h; exact h)); intro v a w' hE hd hf; have ev0 := hf.lit 8 (.pointer (some ⟨g8, 0, none⟩)) (by kernel_rfl) (by kernel_rfl); obtain ⟨s8, a8, n8, c8, b8, h8⟩ := (S.mono hE).at 4 (g8) (IsI 12 za) rfl; have L0 := b8.c0; have L1 := b8.c1; clear hd hf; intro K hK; go_simp; exact hK.out _ _ (Ext.refl _) h8 (FreshIf.no rfl) }) ?_
        refine RgAll.cons (by { (with_reducible refine RgL.mkG 44 185 true (by rfl) (by kernel_rfl) (by kernel_rfl) (by kernel_rfl) (by kernel_rfl) (by kernel_rfl) ?_ ?_); (focus (intro _ _ h; exact h)); intro v a w' hE hd hf; have ev0 := hf.lit 9 (.pointer (some ⟨g9, 0, none⟩)) (by kernel_rfl) (by kernel_rfl); obtain ⟨s8, a8, n8, c8, b8, h8⟩ := (S.mono hE).at 3 (g9) (IsI 12 zb) rfl; have L0 := b8.c0; have L1 := b8.c1; clear hd hf; intro K hK; go_simp; exact hK.out _ _ (Ext.refl _) h8 (FreshIf.no rfl) }) ?_
        refine RgAll.cons (by { (with_reducible refine RgL.mkG 44 185 true (by rfl) (by kernel_rfl) (by kernel_rfl) (by kernel_rfl) (by kernel_rfl) (by kernel_rfl) ?_ ?_); (focus (intro _ _ h; exact h)); intro v a w' hE hd hf; have d0 : (IsI 12 za) (v 46) w' := hd 46 (by kernel_rfl); have ev0 := hf.val 46 187 _ rfl (by kernel_rfl) (by kernel_rfl) (by kernel_rfl); have d1 : (IsI 12 zb) (v 47) w' := hd 47 (by kernel_rfl); have ev1 := hf.val 47 188 _ rfl (by kernel_rfl) (by kernel_rfl) (by kernel_rfl); clear hd hf; intro K hK; go_simp; go_at_call 22; go_split_ands; (with_reducible refine Calls.mono (Sub_f d0 d1 (by decide) (by decide)) ?_); rintro e w2 ⟨x, rfl, e2, hx⟩; exact hK.out _ _ e2 hx (FreshIf.no rfl) }) ?_
        refine RgAll.cons (by { (with_reducible refine RgL.mkG 44 185 true (by rfl) (by kernel_rfl) (by kernel_rfl) (by kernel_rfl) (by kernel_rfl) (by kernel_rfl) ?_ ?_); (focus (intro _ _ h; exact h)); intro v a w' hE hd hf; have d0 : (IsI 13 (za - zb)) (v 48) w' := hd 48 (by kernel_rfl); have ev0 := hf.val 48 189 _ rfl (by kernel_rfl) (by kernel_rfl) (by kernel_rfl); clear hd hf; intro K hK; go_simp; go_at_call 15; go_split_ands; (with_reducible refine Calls.mono (Calls.mono (Sign_f d0) fun _ _ h => h.int (HO8.out)) ?_); rintro e w2 ⟨x, rfl, e2, hx⟩; exact hK.out _ _ e2 hx (FreshIf.no rfl) }) ?_
        refine RgAll.cons (by { (with_reducible refine RgL.mkG 44 185 true (by rfl) (by kernel_rfl) (by kernel_rfl) (by kernel_rfl) (by kernel_rfl) (by kernel_rfl) ?_ ?_); (focus (intro _ _ h; exact h)); intro v a w' hE hd hf; have d0 : v 45 = .int .i64 od := hd 45 (by kernel_rfl); have ev0 := hf.val 45 186 _ d0 (by kernel_rfl) (by kernel_rfl) (by kernel_rfl); clear d0; have d1 : v 49 = .int .i64 od := hd 49 (by kernel_rfl); have ev1 := hf.val 49 190 _ d1 (by kernel_rfl) (by kernel_rfl) (by kernel_rfl); clear d1; clear hd hf; intro K hK; go_simp; exact hK.out _ _ (Ext.refl _) rfl (FreshIf.no rfl) }) ?_
        refine RgAll.cons (by { (with_reducible refine RgL.mk (by rfl) ?_); intro v a w' hE hd hf; have d0 : v 44 = .bool true := hd 44 (by kernel_rfl); have ev0 := hf.val 44 185 _ d0 (by kernel_rfl) (by kernel_rfl) (by kernel_rfl); clear d0; have d1 : v 50 = .bool true := hd 50 (by kernel_rfl); have ev1 := hf.val 50 191 _ d1 (by kernel_rfl) (by kernel_rfl) (by kernel_rfl); clear d1; clear hd hf; intro K hK; go_simp; exact hK.out _ _ (Ext.refl _) rfl (FreshIf.no rfl) }) ?_
        refine RgAll.cons (by { (with_reducible refine RgL.mk (by rfl) ?_); intro v a w' hE hd hf; have d0 : v 51 = .bool true := hd 51 (by kernel_rfl); have ev0 := hf.val 51 192 _ d0 (by kernel_rfl) (by kernel_rfl) (by kernel_rfl); clear d0; clear hd hf; intro K hK; go_simp; exact hK.out _ _ (Ext.refl _) rfl (FreshIf.no rfl) }) ?_
        exact RgAll.nil
      intro v W16 e1 hΦ _
      replace S := S.mono e1
      have v52 : v 52 = .bool true := hΦ 52 (by decide)
      simp only [layL, Act.put, List.setIfInBounds_toArray, List.set_cons_zero, List.set_cons_succ, Nat.reduceAdd]
      rw [v52]
      clear v52
      clear hΦ
      clear e1
      refine wpAny_done (by kernel_rfl) ?_ _
      go_wp2_with fail
      exact bodyPost_ret (v := .bool true) (by simp [results, Tryd.results7, go_sem]) rfl (⟨_, rfl, S.ext, rfl⟩)
    · obtain ⟨s9, a9, n9, c9, z9, q0, q1, q2⟩ := hrow.2 i (by omega)
      have hi5 : i < 5 := by omega
      have hd : decide ((i : Int) < 5) = true := by simp; omega
      have Q2 := hid q2
      have e2 : i * 2 = 2 * i := Nat.mul_comm _ _
      go_wp2_with fail
      refine Calls.mono (Valid_c wr s9 a9 n9 c9 25 z9 Q2.out) ?_
      rintro e w1 ⟨x, rfl, e1, hx⟩
      have hx : x = .bool true := hx
      subst hx
      have q0 := e1.cell q0
      have q1 := e1.cell q1
      go_wp2_with fail
      refine Calls.mono (RValid_c w1 s9 a9 n9 c9 25 z9 (Q2.out.ext e1)) ?_
      rintro e w2 ⟨x, rfl, e2', hx⟩
      have hx : x = .bool true := hx
      subst hx
      have I' := hid (And.intro ((S.mono e1).mono e2') ((hrow.ext e1).ext e2'))
      clear q0 q1 S hrow Q2 e2
      go_wp2_with fail
      go_roundg (gk - 1)
      case measure => omega
      case rel => exact ⟨i + 1, by go_num, by omega, I'⟩
theorem Ring_c (w : World) (s1 s2 s3 : Bool) (a1 a2 a3 : Option Addr) (n1 n2 n3 c1 c2 c3 : Nat) (x1 x2 x3 : List Nat) (h1 : Wd w a1 n1 c1 x1) (h2 : Wd w a2 n2 c2 x2) (h3 : Wd w a3 n3 c3 x3) (ht : Tab w) :
    Calls Tryd.prog 7 #[.agg #[.bool s1, .slice a1 n1 c1], .agg #[.bool s2, .slice a2 n2 c2], .agg #[.bool s3, .slice a3 n3 c3]] w (Ret w (IsV (.bool true))) :=
  Ring_1 w s1 s2 s3 a1 a2 a3 n1 n2 n3 c1 c2 c3 x1 x2 x3 h1 h2 h3 ht _ _ _ rfl rfl rfl
end Go.Proofs.YtpflfagjkmeeiaaDoor
namespace Go.Proofs.YtpflfagjkmeeiaaDoor
open Go Go.RowKit Go.ChangeShapes Go.WideShapes Go.ChangeAt

set_option maxRecDepth 100000 in
theorem integerRing_lifted (os : Os) (started : os.Started) (H : Type) (enc : TypeId × Value → H) :
    ReturnsInHanded {} Tryd.checked os 7 .any (fun w args => (Rows.integerRingSpec.pre enc Tryd.prog Tryd.f7 [] false w args ∧ laidMetH Tryd.prog laid3 w) ∧ sizedMet enc Tryd.prog Tryd.f7 (OpenSpec.ofChange Rows.integerRingSpec) false w args)
      (Rows.integerRingSpec.post enc Tryd.prog Tryd.f7 false true false false) := by
  refine returnsInHanded_of_change_and (C := Tryd.checked) (X := fun w _ => laidMetH Tryd.prog laid3 w) (fun _ _ _ hh h => h.of_heap hh) own started (by kernel_rfl) Tryd.func7
    (ChangeSpec.witness_shaped (enc := enc) (C := Tryd.checked) (os := os) (X := fun w _ => laidMetH Tryd.prog laid3 w) false (World.doorLaid Tryd.prog 2000 os) #[.agg #[.bool false, .slice none 0 0], .agg #[.bool false, .slice none 0 0], .agg #[.bool false, .slice none 0 0]] 8 rfl (World.shaped_of_RefB (by kernel_rfl) (by kernel_rfl)) (by kernel_rfl) (by kernel_rfl) (by kernel_rfl) (door_met os _)) ?_
  intro W base args ds gs before hval0 hW _ _ hL _
  have hval : ∀ (j : Nat) t v, Tryd.f7.params[j]? = some t → args[j]? = some v → Value.okWide Tryd.prog W .any base t v := hval0
  have hW' := hW
  obtain ⟨p, q, hA0, hV, rfl, hfz, hnd⟩ := hW
  have hA : DataW.TrodAll enc Tryd.prog W 0 (fun _ => true) true Tryd.f7.params.toList args.toList ds p := hA0
  rw [Tryd.params7] at hA hval
  obtain ⟨v1, v2, v3, d1, d2, d3, p1, p2, p3, rfl, rfl, rfl, k1, k2, k3⟩ := trodAll_three hA
  obtain ⟨rfl, rfl⟩ := trodVars_none hV
  obtain ⟨s1, a1, n1, c1, x1, rfl, w1, r1⟩ := raw_open (hval 0 24 v1 rfl rfl) k1
  obtain ⟨s2, a2, n2, c2, x2, rfl, w2, r2⟩ := raw_open (hval 1 24 v2 rfl rfl) k2
  obtain ⟨s3, a3, n3, c3, x3, rfl, w3, r3⟩ := raw_open (hval 2 24 v3 rfl rfl) k3
  clear hA0 hval0
  refine (Ring_c W s1 s2 s3 a1 a2 a3 n1 n2 n3 c1 c2 c3 x1 x2 x3 w1 w2 w3 (tab_of_laid hL)).mono fun e W' ⟨x, he, hb, hx⟩ => ?_
  have hx : x = .bool true := hx
  subst he; subst hx
  refine ⟨_, rfl, post_of_below (pa := p1 ++ (p2 ++ p3)) (pv := []) hW' (fun _ _ _ => trodAll_mk1 (shut_bool Tryd.underlying4 true)) (fun sp hsp => ?_) (fun _ _ => rfl) (by simp) hb (ok_one (by kernel_rfl) rfl (okWide_bool_mk Tryd.underlying4 _))⟩
  rw [Tryd.params7]
  exact trodAll_mk3 (r1 W' sp hb fun q hq => hsp q (by simp [hq])) (r2 W' sp hb fun q hq => hsp q (by simp [hq])) (r3 W' sp hb fun q hq => hsp q (by simp [hq]))

theorem integerRing_row : Rows.IntegerRingSaid :=
  OpenClaim.holds_of_wide 7 Tryd.f7 rfl rfl rfl rfl rfl rfl rfl ⟨rfl, rfl, rfl, rfl, rfl⟩ rfl rfl rfl rfl rfl (by kernel_rfl) Tryd.func7 (by kernel_rfl)
    (of_decide_eq_true (by kernel_rfl)) (by unfold Func.isWrapper; first | (rw [if_pos (by decide +kernel)]; kernel_rfl) | (rw [if_neg (by decide +kernel)]; exact ⟨rfl, rfl⟩))
    (fun os started H enc _ => integerRing_lifted os started H enc)

set_option maxRecDepth 100000 in
/-- The tied card. -/
theorem integerRing_holds : Rows.IntegerRingCardSaid :=
  Claim7.holds_tied_plain_at .later [] [.data, .data, .data] true Rows.integerRingCard.stood.harness false
    integerRing_row (fun _ h => by cases h) (by kernel_rfl) (fun _ h => by cases h) integerRing_row_tie rfl ⟨rfl, rfl⟩ (by kernel_rfl) rfl
    (fun f fn hf hfn => by
      obtain rfl : f = 7 := Option.some.inj ((show Tryd.prog.funcNamed "algorist/algoristlaw01.IntegerRing" = some 7 by kernel_rfl).symm.trans hf) |>.symm
      obtain rfl : fn = Tryd.f7 := (Option.some.inj (Tryd.func7.symm.trans hfn)).symm
      refine ⟨by kernel_rfl, fun j t ht => ?_⟩
      rw [Tryd.params7] at ht
      have h3 : t = 24 := by
        rcases j with _ | _ | _ | j
        · simpa using ht.symm
        · simpa using ht.symm
        · simpa using ht.symm
        · simp at ht
      subst h3
      exact (show Tryd.prog.wantsStandIn 24 = false by kernel_rfl))
    (by kernel_rfl)
#print axioms integerRing_holds
end Go.Proofs.YtpflfagjkmeeiaaDoor
