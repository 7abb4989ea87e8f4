/-
  The statement IntegerCommon: for every three descriptions of integers the law answers true, and the descriptions read behind the call as they read before. The listed package variables hold what the program's text lays (the card ties them).
-/
import Derived.Test.YtpflfagjkmeeiaaDoorEx
import Derived.Test.YtpflfagjkmeeiaaDoorRead
import Derived.Test.YtpflfagjkmeeiaaDoorTie
import Derived.Test.YtpflfagjkmeeiaaDoorCards
import Derived.SevenTiedAt
namespace Go.Proofs.YtpflfagjkmeeiaaDoor
open Go Go.RowKit

theorem bez_nat (a b : Nat) : ∃ x y : Int, (Nat.gcd a b : Int) = x * a + y * b := by
  induction a, b using Nat.gcd.induction with
  | H0 n => exact ⟨0, 1, by simp⟩
  | H1 m n _ ih =>
    obtain ⟨x, y, h⟩ := ih
    refine ⟨y - x * (n / m : Nat), x, ?_⟩
    rw [Nat.gcd_rec, h]
    have h2 : ((n % m : Nat) : Int) = (n : Int) - (m : Int) * ((n / m : Nat) : Int) := by
      have := Nat.div_add_mod n m
      have h3 : ((m * (n / m) + n % m : Nat) : Int) = (n : Int) := by rw [this]
      rw [Int.natCast_add, Int.natCast_mul] at h3
      omega
    rw [h2]
    grind
theorem bez_int (a b : Int) : ∃ x y : Int, (Int.gcd a b : Int) = x * a + y * b := by
  obtain ⟨x, y, h⟩ := bez_nat a.natAbs b.natAbs
  have ha : (a.natAbs : Int) = a ∨ (a.natAbs : Int) = -a := by omega
  have hb : (b.natAbs : Int) = b ∨ (b.natAbs : Int) = -b := by omega
  have h' : (Int.gcd a b : Int) = x * (a.natAbs : Int) + y * (b.natAbs : Int) := h
  rcases ha with ha | ha <;> rcases hb with hb | hb <;> rw [ha, hb] at h'
  · exact ⟨x, y, h'⟩
  · exact ⟨x, -y, by rw [h']; grind⟩
  · exact ⟨-x, y, by rw [h']; grind⟩
  · exact ⟨-x, -y, by rw [h']; grind⟩
theorem bez_small (a b g : Int) (hb : b ≠ 0) (hg : (Int.gcd a b : Int) = g) : ∃ u v : Int, g = u * a + v * b ∧ 0 ≤ u ∧ u < (b / g).natAbs := by
  obtain ⟨x, y, h⟩ := bez_int a b
  rw [hg] at h
  obtain ⟨a', ha⟩ : g ∣ a := hg ▸ Int.gcd_dvd_left a b
  obtain ⟨b', hb'⟩ : g ∣ b := hg ▸ Int.gcd_dvd_right a b
  have hg0 : g ≠ 0 := fun h => hb (by rw [hb', h]; simp)
  have hb0 : b' ≠ 0 := fun h => hb (by rw [hb', h]; simp)
  have hq : b / g = b' := by rw [hb', Int.mul_ediv_cancel_left _ hg0]
  refine ⟨x % b', y + a' * (x / b'), ?_, Int.emod_nonneg x hb0, by rw [hq]; exact Int.emod_lt x hb0⟩
  have h1 : x % b' = x - b' * (x / b') := by have := Int.mul_ediv_add_emod x b'; omega
  rw [h1]
  generalize x / b' = q at *
  rw [h, ha, hb']
  grind
theorem quot_abs (b g : Int) (hg : 0 < g) (hd : g ∣ b) : ((b / g).natAbs : Int) = (b.natAbs : Int) / g := by
  obtain ⟨b', rfl⟩ := hd
  rw [Int.mul_ediv_cancel_left _ (by omega), Int.natAbs_mul, Int.natCast_mul]
  have : (g.natAbs : Int) = g := by omega
  rw [this, Int.mul_ediv_cancel_left _ (by omega)]

set_option maxRecDepth 100000 in
set_option maxHeartbeats 8000000 in
theorem Common_A (w : World) (s1 s2 s3 : Bool) (a1 a2 a3 : Option Addr) (n1 n2 n3 c1 c2 c3 : Nat) (x1 x2 x3 : List Nat) (h1 : Wd w a1 n1 c1 x1) (h2 : Wd w a2 n2 c2 x2) (h3 : Wd w a3 n3 c3 x3) (ht : Tab w) (za zb zc : Int) (ha : rawZ s1 x1 8 = za) (hb : rawZ s2 x2 8 = zb) (hc : rawZ s3 x3 4 = zc) (hz : zb ≠ 0) :
    Calls Tryd.prog 4 #[.agg #[.bool s1, .slice a1 n1 c1], .agg #[.bool s2, .slice a2 n2 c2], .agg #[.bool s3, .slice a3 n3 c3]] w (Ret w (IsV (.bool true))) := by
  have Ha := hid ha
  have Hb := hid hb
  have Hc := hid hc
  have HZb := hid hz
  obtain ⟨gg, hg⟩ : ∃ g, (Int.gcd za zb : Int) = g := ⟨_, rfl⟩
  obtain ⟨uu, vv, hB⟩ := bez_small za zb gg hz hg
  have hga : gg ∣ za := hg ▸ Int.gcd_dvd_left za zb
  have hgb : gg ∣ zb := hg ▸ Int.gcd_dvd_right za zb
  have hg0 : gg ≠ 0 := fun h => hz (by obtain ⟨b', h2⟩ := hgb; rw [h2, h]; simp)
  have hgp : 0 < gg := by have : 0 ≤ gg := hg ▸ Int.natCast_nonneg _; omega
  have HB := hid hB
  have HG := hid hg
  have HG2 := hid (show ((Int.gcd zb za : Nat) : Int) = gg by rw [Int.gcd_comm]; exact hg)
  have H1 := hid hB.1.symm
  have Hg0 := hid hg0
  have HSg := hid (Int.sign_eq_one_of_pos hgp)
  have Hr := hid (Int.emod_eq_zero_of_dvd hga)
  have Hs := hid (show ((zb.natAbs : Nat) : Int) % gg = 0 from Int.emod_eq_zero_of_dvd (Int.dvd_natAbs.2 hgb))
  obtain ⟨su, hsu⟩ : ∃ s, s = uu.sign := ⟨_, rfl⟩
  have Hsu := hid (show uu.sign = su ∧ decide (su < 0) = false from ⟨hsu.symm, by rw [hsu, decide_eq_false_iff_not]; have := Int.sign_nonneg_iff.2 hB.2.1; omega⟩)
  have Hcmp := hid (show cmpI uu (((zb.natAbs : Nat) : Int) / gg) = -1 from cmpI_lt (by rw [← quot_abs zb gg hgp hgb]; exact hB.2.2))
  have H9 := hid (show ((Int.gcd (za * zc) (zb * zc) : Nat) : Int) = gg * ((zc.natAbs : Nat) : Int) by rw [Int.gcd_mul_right, Int.natCast_mul, hg])
  clear ha hb hc hz hg hB hga hgb hg0 hgp hsu
  obtain ⟨W, hW, S⟩ : ∃ W, W = ((w.alloc (.cells #[.bool s1, .slice a1 n1 c1] 24)).alloc (.cells #[.bool s2, .slice a2 n2 c2] 24)).alloc (.cells #[.bool s3, .slice a3 n3 c3] 24) ∧ St w W [(w.heap.size + 1 + 1, IsR s3 x3), (w.heap.size + 1, IsR s2 x2), (w.heap.size, IsR s1 x1)] := ⟨_, rfl, ((((St.start w).new' (w.heap.size) (by simp) s1 a1 n1 c1 24 (IsR s1 x1) (IsR.gstb _ _) ⟨_, _, _, rfl, h1⟩).new' (w.heap.size + 1) (by simp) s2 a2 n2 c2 24 (IsR s2 x2) (IsR.gstb _ _) ⟨_, _, _, rfl, h2.ext ((Ext.refl _).alloc _)⟩).new' (w.heap.size + 1 + 1) (by simp) s3 a3 n3 c3 24 (IsR s3 x3) (IsR.gstb _ _) ⟨_, _, _, rfl, h3.ext (((Ext.refl _).alloc _).alloc _)⟩)⟩
  clear h1 h2 h3
  go_enter Tryd.func4, Tryd.ntmps4
  go_upto_region 1 with (fail)
  rw [← hW]
  clear hW
  refine wp_region_rgs 2 [some 20, some 7] [IsV (.bool true), IsV (.bool true)] [] (by decide) (by kernel_rfl) (by kernel_rfl) (by kernel_rfl) ?_ ?_ ?_ ?_
  · repeat' (first | exact trivial | exact IsV.stb _ | exact IsI.stb _ _ | exact IsB.stb _ | exact IsR.stb _ _ | exact IsMag.stb _ _ | exact IsPos.stb | apply IsT3.stb | apply IsT2.stb | apply And.intro)
  · exact (fun _ h => by cases h)
  · refine RgAll.cons (by { (with_reducible refine RgL.mk (by rfl) ?_); intro v a w' hE hd hf; skip; clear hd hf; intro K hK; go_simp; go_at_call 9; go_split_ands; (with_reducible refine Calls.mono (examples_f _ (ht.ext (S.ext.trans hE))) ?_); rintro e w2 ⟨x, rfl, e2, hx⟩; exact hK.out _ _ e2 hx (FreshIf.no rfl) }) ?_
    refine RgAll.cons (by { (with_reducible refine RgL.mk (by rfl) ?_); intro v a w' hE hd hf; have d0 : v 0 = .bool true := hd 0 (by kernel_rfl); have ev0 := hf.val 0 20 _ d0 (by kernel_rfl) (by kernel_rfl) (by kernel_rfl); clear d0; clear hd hf; intro K hK; go_simp; exact hK.out _ _ (Ext.refl _) rfl (FreshIf.no rfl) }) ?_
    exact RgAll.nil
  intro v W1 e1 hΦ _
  replace S := S.mono e1
  have v1 : v 1 = .bool true := hΦ 1 (by decide)
  simp only [layL, Act.put, List.setIfInBounds_toArray, List.set_cons_zero, List.set_cons_succ, Nat.reduceAdd]
  rw [v1]
  clear v1
  clear hΦ
  clear e1
  refine wpList_nil ?_
  go_upto_region 4 with (fail)
  have hl := hid S.lt; have hw := S.ext.size
  refine wp_region_rgs 3 [some 23, some 24, some 8] [IsR s1 x1, IsI 8 za, IsB W1] [2] (by decide) (by kernel_rfl) (by kernel_rfl) (by kernel_rfl) ?_ ?_ ?_ ?_
  · repeat' (first | exact trivial | exact IsV.stb _ | exact IsI.stb _ _ | exact IsB.stb _ | exact IsR.stb _ _ | exact IsMag.stb _ _ | exact IsPos.stb | apply IsT3.stb | apply IsT2.stb | apply And.intro)
  · intro i hi; simp only [List.mem_cons, List.not_mem_nil, or_false] at hi; subst hi; exact IsB.box _
  · refine RgAll.cons (by { (with_reducible refine RgL.mk (by rfl) ?_); intro v a w' hE hd hf; have ev0 := hf.lit 3 (.pointer (some ⟨w.heap.size, 0, none⟩)) (by kernel_rfl) (by kernel_rfl); obtain ⟨s8, a8, n8, c8, b8, h8⟩ := (S.mono hE).at 2 (w.heap.size) (IsR s1 x1) rfl; have L0 := b8.c0; have L1 := b8.c1; clear hd hf; intro K hK; go_simp; exact hK.out _ _ (Ext.refl _) h8 (FreshIf.no rfl) }) ?_
    refine RgAll.cons (by { (with_reducible refine RgL.mk (by rfl) ?_); intro v a w' hE hd hf; have d0 : (IsR s1 x1) (v 0) w' := hd 0 (by kernel_rfl); have ev0 := hf.val 0 23 _ rfl (by kernel_rfl) (by kernel_rfl) (by kernel_rfl); clear hd hf; intro K hK; go_simp; go_at_call 10; go_split_ands; (with_reducible refine Calls.mono (Calls.mono (Made_f d0 (by decide)) fun _ _ h => h.eqz Ha.out) ?_); rintro e w2 ⟨x, rfl, e2, hx⟩; exact hK.out _ _ e2 hx (FreshIf.no rfl) }) ?_
    refine RgAll.cons (by { (with_reducible refine RgL.mk (by rfl) ?_); intro v a w' hE hd hf; skip; clear hd hf; intro K hK; go_simp; refine hK.out _ _ ((Ext.refl _).alloc _) ⟨_, rfl, hE.size, Bx.new _ _ _ _ _⟩ FreshIf.yes }) ?_
    exact RgAll.nil
  intro v W2 e1 hΦ _
  replace S := S.mono e1
  obtain ⟨s24, a24, n24, c24, v1, h24⟩ := (hΦ 1 (by decide) : IsI 8 za (v 1) W2)
  obtain ⟨g8, v2, q2, b1⟩ := (hΦ 2 (by decide) : IsB W1 (v 2) W2)
  replace S := S.addN (Apart.old hl.out q2) (Nat.le_trans hw q2) b1
  clear b1
  simp only [layL, Act.put, List.setIfInBounds_toArray, List.set_cons_zero, List.set_cons_succ, Nat.reduceAdd]
  rw [v1, v2]
  clear v1 v2
  clear hΦ
  clear hl hw
  clear e1
  obtain ⟨s8, a8, n8, c8, b8, _⟩ := S.at 0 (g8) (IsI 0 0) rfl; have F1 := b8.c0; have F2 := b8.c1; have F3 := b8.f0; have F4 := b8.f1
  refine wpList_step fun K hK => ?_; go_simp; refine hK _ _ ?_; clear hK K
  clear F1 F2 F3 F4 b8
  obtain ⟨W3, hW, S2, G2, _⟩ := S.put 0 (g8) (IsI 0 0) (IsI 8 za) rfl s24 a24 n24 c24 (IsI.gstb _ _) ⟨_, _, _, _, rfl, h24⟩
  rw [← hW]; clear hW S
  have S : St w W3 [(g8, IsI 8 za), (w.heap.size + 1 + 1, IsR s3 x3), (w.heap.size + 1, IsR s2 x2), (w.heap.size, IsR s1 x1)] := S2; clear S2 G2
  clear h24
  refine wpList_nil ?_
  go_upto_region 5 with (fail)
  have hl := hid S.lt; have hw := S.ext.size
  refine wp_region_rgs 3 [some 25, some 26, some 9] [IsR s2 x2, IsI 8 zb, IsB W3] [2] (by decide) (by kernel_rfl) (by kernel_rfl) (by kernel_rfl) ?_ ?_ ?_ ?_
  · repeat' (first | exact trivial | exact IsV.stb _ | exact IsI.stb _ _ | exact IsB.stb _ | exact IsR.stb _ _ | exact IsMag.stb _ _ | exact IsPos.stb | apply IsT3.stb | apply IsT2.stb | apply And.intro)
  · intro i hi; simp only [List.mem_cons, List.not_mem_nil, or_false] at hi; subst hi; exact IsB.box _
  · refine RgAll.cons (by { (with_reducible refine RgL.mk (by rfl) ?_); intro v a w' hE hd hf; have ev0 := hf.lit 4 (.pointer (some ⟨w.heap.size + 1, 0, none⟩)) (by kernel_rfl) (by kernel_rfl); obtain ⟨s8, a8, n8, c8, b8, h8⟩ := (S.mono hE).at 2 (w.heap.size + 1) (IsR s2 x2) rfl; have L0 := b8.c0; have L1 := b8.c1; clear hd hf; intro K hK; go_simp; exact hK.out _ _ (Ext.refl _) h8 (FreshIf.no rfl) }) ?_
    refine RgAll.cons (by { (with_reducible refine RgL.mk (by rfl) ?_); intro v a w' hE hd hf; have d0 : (IsR s2 x2) (v 0) w' := hd 0 (by kernel_rfl); have ev0 := hf.val 0 25 _ rfl (by kernel_rfl) (by kernel_rfl) (by kernel_rfl); clear hd hf; intro K hK; go_simp; go_at_call 10; go_split_ands; (with_reducible refine Calls.mono (Calls.mono (Made_f d0 (by decide)) fun _ _ h => h.eqz Hb.out) ?_); rintro e w2 ⟨x, rfl, e2, hx⟩; exact hK.out _ _ e2 hx (FreshIf.no rfl) }) ?_
    refine RgAll.cons (by { (with_reducible refine RgL.mk (by rfl) ?_); intro v a w' hE hd hf; skip; clear hd hf; intro K hK; go_simp; refine hK.out _ _ ((Ext.refl _).alloc _) ⟨_, rfl, hE.size, Bx.new _ _ _ _ _⟩ FreshIf.yes }) ?_
    exact RgAll.nil
  intro v W4 e1 hΦ _
  replace S := S.mono e1
  obtain ⟨s26, a26, n26, c26, v1, h26⟩ := (hΦ 1 (by decide) : IsI 8 zb (v 1) W4)
  obtain ⟨g9, v2, q4, b3⟩ := (hΦ 2 (by decide) : IsB W3 (v 2) W4)
  replace S := S.addN (Apart.old hl.out q4) (Nat.le_trans hw q4) b3
  clear b3
  simp only [layL, Act.put, List.setIfInBounds_toArray, List.set_cons_zero, List.set_cons_succ, Nat.reduceAdd]
  rw [v1, v2]
  clear v1 v2
  clear hΦ
  clear hl hw
  clear e1
  obtain ⟨s8, a8, n8, c8, b8, _⟩ := S.at 0 (g9) (IsI 0 0) rfl; have F1 := b8.c0; have F2 := b8.c1; have F3 := b8.f0; have F4 := b8.f1
  refine wpList_step fun K hK => ?_; go_simp; refine hK _ _ ?_; clear hK K
  clear F1 F2 F3 F4 b8
  obtain ⟨W5, hW, S2, G2, _⟩ := S.put 0 (g9) (IsI 0 0) (IsI 8 zb) rfl s26 a26 n26 c26 (IsI.gstb _ _) ⟨_, _, _, _, rfl, h26⟩
  rw [← hW]; clear hW S
  have S : St w W5 [(g9, IsI 8 zb), (g8, IsI 8 za), (w.heap.size + 1 + 1, IsR s3 x3), (w.heap.size + 1, IsR s2 x2), (w.heap.size, IsR s1 x1)] := S2; clear S2 G2
  clear h26
  refine wpList_nil ?_
  go_upto_region 6 with (fail)
  have hl := hid S.lt; have hw := S.ext.size
  refine wp_region_rgs 3 [some 27, some 28, some 10] [IsR s3 x3, IsI 4 zc, IsB W5] [2] (by decide) (by kernel_rfl) (by kernel_rfl) (by kernel_rfl) ?_ ?_ ?_ ?_
  · repeat' (first | exact trivial | exact IsV.stb _ | exact IsI.stb _ _ | exact IsB.stb _ | exact IsR.stb _ _ | exact IsMag.stb _ _ | exact IsPos.stb | apply IsT3.stb | apply IsT2.stb | apply And.intro)
  · intro i hi; simp only [List.mem_cons, List.not_mem_nil, or_false] at hi; subst hi; exact IsB.box _
  · refine RgAll.cons (by { (with_reducible refine RgL.mk (by rfl) ?_); intro v a w' hE hd hf; have ev0 := hf.lit 5 (.pointer (some ⟨w.heap.size + 1 + 1, 0, none⟩)) (by kernel_rfl) (by kernel_rfl); obtain ⟨s8, a8, n8, c8, b8, h8⟩ := (S.mono hE).at 2 (w.heap.size + 1 + 1) (IsR s3 x3) rfl; have L0 := b8.c0; have L1 := b8.c1; clear hd hf; intro K hK; go_simp; exact hK.out _ _ (Ext.refl _) h8 (FreshIf.no rfl) }) ?_
    refine RgAll.cons (by { (with_reducible refine RgL.mk (by rfl) ?_); intro v a w' hE hd hf; have d0 : (IsR s3 x3) (v 0) w' := hd 0 (by kernel_rfl); have ev0 := hf.val 0 27 _ rfl (by kernel_rfl) (by kernel_rfl) (by kernel_rfl); clear hd hf; intro K hK; go_simp; go_at_call 10; go_split_ands; (with_reducible refine Calls.mono (Calls.mono (Made_f d0 (by decide)) fun _ _ h => h.eqz Hc.out) ?_); rintro e w2 ⟨x, rfl, e2, hx⟩; exact hK.out _ _ e2 hx (FreshIf.no rfl) }) ?_
    refine RgAll.cons (by { (with_reducible refine RgL.mk (by rfl) ?_); intro v a w' hE hd hf; skip; clear hd hf; intro K hK; go_simp; refine hK.out _ _ ((Ext.refl _).alloc _) ⟨_, rfl, hE.size, Bx.new _ _ _ _ _⟩ FreshIf.yes }) ?_
    exact RgAll.nil
  intro v W6 e1 hΦ _
  replace S := S.mono e1
  obtain ⟨s28, a28, n28, c28, v1, h28⟩ := (hΦ 1 (by decide) : IsI 4 zc (v 1) W6)
  obtain ⟨g10, v2, q6, b5⟩ := (hΦ 2 (by decide) : IsB W5 (v 2) W6)
  replace S := S.addN (Apart.old hl.out q6) (Nat.le_trans hw q6) b5
  clear b5
  simp only [layL, Act.put, List.setIfInBounds_toArray, List.set_cons_zero, List.set_cons_succ, Nat.reduceAdd]
  rw [v1, v2]
  clear v1 v2
  clear hΦ
  clear hl hw
  clear e1
  obtain ⟨s8, a8, n8, c8, b8, _⟩ := S.at 0 (g10) (IsI 0 0) rfl; have F1 := b8.c0; have F2 := b8.c1; have F3 := b8.f0; have F4 := b8.f1
  refine wpList_step fun K hK => ?_; go_simp; refine hK _ _ ?_; clear hK K
  clear F1 F2 F3 F4 b8
  obtain ⟨W7, hW, S2, G2, _⟩ := S.put 0 (g10) (IsI 0 0) (IsI 4 zc) rfl s28 a28 n28 c28 (IsI.gstb _ _) ⟨_, _, _, _, rfl, h28⟩
  rw [← hW]; clear hW S
  have S : St w W7 [(g10, IsI 4 zc), (g9, IsI 8 zb), (g8, IsI 8 za), (w.heap.size + 1 + 1, IsR s3 x3), (w.heap.size + 1, IsR s2 x2), (w.heap.size, IsR s1 x1)] := S2; clear S2 G2
  clear h28
  refine wpList_nil ?_
  go_upto_region 7 with (fail)
  have hl := hid S.lt; have hw := S.ext.size
  refine wp_region_rgs 10 [some 30, some 31, some 32, some 29, some 33, some 34, some 35, some 11, some 12, some 13] [IsI 8 za, IsI 8 zb, IsT3 (IsI 8 gg) (IsI 8 uu) (IsI 17 vv), IsT3 (IsI 8 gg) (IsI 8 uu) (IsI 17 vv), IsI 8 gg, IsI 8 uu, IsI 17 vv, IsB W7, IsB W7, IsB W7] [7, 8, 9] (by decide) (by kernel_rfl) (by kernel_rfl) (by kernel_rfl) ?_ ?_ ?_ ?_
  · repeat' (first | exact trivial | exact IsV.stb _ | exact IsI.stb _ _ | exact IsB.stb _ | exact IsR.stb _ _ | exact IsMag.stb _ _ | exact IsPos.stb | apply IsT3.stb | apply IsT2.stb | apply And.intro)
  · intro i hi; simp only [List.mem_cons, List.not_mem_nil, or_false] at hi; rcases hi with rfl | rfl | rfl <;> exact IsB.box _
  · refine RgAll.cons (by { (with_reducible refine RgL.mk (by rfl) ?_); intro v a w' hE hd hf; have ev0 := hf.lit 8 (.pointer (some ⟨g8, 0, none⟩)) (by kernel_rfl) (by kernel_rfl); obtain ⟨s8, a8, n8, c8, b8, h8⟩ := (S.mono hE).at 2 (g8) (IsI 8 za) rfl; have L0 := b8.c0; have L1 := b8.c1; clear hd hf; intro K hK; go_simp; exact hK.out _ _ (Ext.refl _) h8 (FreshIf.no rfl) }) ?_
    refine RgAll.cons (by { (with_reducible refine RgL.mk (by rfl) ?_); intro v a w' hE hd hf; have ev0 := hf.lit 9 (.pointer (some ⟨g9, 0, none⟩)) (by kernel_rfl) (by kernel_rfl); obtain ⟨s8, a8, n8, c8, b8, h8⟩ := (S.mono hE).at 1 (g9) (IsI 8 zb) rfl; have L0 := b8.c0; have L1 := b8.c1; clear hd hf; intro K hK; go_simp; exact hK.out _ _ (Ext.refl _) h8 (FreshIf.no rfl) }) ?_
    refine RgAll.cons (by { (with_reducible refine RgL.mk (by rfl) ?_); intro v a w' hE hd hf; have d0 : (IsI 8 za) (v 0) w' := hd 0 (by kernel_rfl); have ev0 := hf.val 0 30 _ rfl (by kernel_rfl) (by kernel_rfl) (by kernel_rfl); have d1 : (IsI 8 zb) (v 1) w' := hd 1 (by kernel_rfl); have ev1 := hf.val 1 31 _ rfl (by kernel_rfl) (by kernel_rfl) (by kernel_rfl); clear hd hf; intro K hK; go_simp; go_at_call 18; go_split_ands; (with_reducible refine Calls.mono (Bezout_v d0 d1 (by decide) (by decide) gg uu vv HZb.out HG.out HB.out.1 HB.out.2.1 HB.out.2.2) ?_); rintro e w2 ⟨x, rfl, e2, hx⟩; exact hK.out _ _ e2 hx (FreshIf.no rfl) }) ?_
    refine RgAll.cons (by { (with_reducible refine RgL.mk (by rfl) ?_); intro v a w' hE hd hf; have d0 : (IsT3 (IsI 8 gg) (IsI 8 uu) (IsI 17 vv)) (v 2) w' := hd 2 (by kernel_rfl); have ev0 := hf.val 2 32 _ rfl (by kernel_rfl) (by kernel_rfl) (by kernel_rfl); clear hd hf; intro K hK; go_simp; exact hK.out _ _ (Ext.refl _) d0 (FreshIf.no rfl) }) ?_
    refine RgAll.cons (by { (with_reducible refine RgL.mk (by rfl) ?_); intro v a w' hE hd hf; have d0 : (IsT3 (IsI 8 gg) (IsI 8 uu) (IsI 17 vv)) (v 3) w' := hd 3 (by kernel_rfl); obtain ⟨x0, x1, x2, z0, y0, y1, y2⟩ := d0; have ev0 := hf.val 3 29 _ z0 (by kernel_rfl) (by kernel_rfl) (by kernel_rfl); clear z0; clear hd hf; intro K hK; go_simp; exact hK.out _ _ (Ext.refl _) y0 (FreshIf.no rfl) }) ?_
    refine RgAll.cons (by { (with_reducible refine RgL.mk (by rfl) ?_); intro v a w' hE hd hf; have d0 : (IsT3 (IsI 8 gg) (IsI 8 uu) (IsI 17 vv)) (v 3) w' := hd 3 (by kernel_rfl); obtain ⟨x0, x1, x2, z0, y0, y1, y2⟩ := d0; have ev0 := hf.val 3 29 _ z0 (by kernel_rfl) (by kernel_rfl) (by kernel_rfl); clear z0; clear hd hf; intro K hK; go_simp; exact hK.out _ _ (Ext.refl _) y1 (FreshIf.no rfl) }) ?_
    refine RgAll.cons (by { (with_reducible refine RgL.mk (by rfl) ?_); intro v a w' hE hd hf; have d0 : (IsT3 (IsI 8 gg) (IsI 8 uu) (IsI 17 vv)) (v 3) w' := hd 3 (by kernel_rfl); obtain ⟨x0, x1, x2, z0, y0, y1, y2⟩ := d0; have ev0 := hf.val 3 29 _ z0 (by kernel_rfl) (by kernel_rfl) (by kernel_rfl); clear z0; clear hd hf; intro K hK; go_simp; exact hK.out _ _ (Ext.refl _) y2 (FreshIf.no rfl) }) ?_
    refine RgAll.cons (by { (with_reducible refine RgL.mk (by rfl) ?_); intro v a w' hE hd hf; skip; clear hd hf; intro K hK; go_simp; refine hK.out _ _ ((Ext.refl _).alloc _) ⟨_, rfl, hE.size, Bx.new _ _ _ _ _⟩ FreshIf.yes }) ?_
    refine RgAll.cons (by { (with_reducible refine RgL.mk (by rfl) ?_); intro v a w' hE hd hf; skip; clear hd hf; intro K hK; go_simp; refine hK.out _ _ ((Ext.refl _).alloc _) ⟨_, rfl, hE.size, Bx.new _ _ _ _ _⟩ FreshIf.yes }) ?_
    refine RgAll.cons (by { (with_reducible refine RgL.mk (by rfl) ?_); intro v a w' hE hd hf; skip; clear hd hf; intro K hK; go_simp; refine hK.out _ _ ((Ext.refl _).alloc _) ⟨_, rfl, hE.size, Bx.new _ _ _ _ _⟩ FreshIf.yes }) ?_
    exact RgAll.nil
  intro v W8 e1 hΦ hne
  replace S := S.mono e1
  obtain ⟨s33, a33, n33, c33, v4, h33⟩ := (hΦ 4 (by decide) : IsI 8 gg (v 4) W8)
  obtain ⟨s34, a34, n34, c34, v5, h34⟩ := (hΦ 5 (by decide) : IsI 8 uu (v 5) W8)
  obtain ⟨s35, a35, n35, c35, v6, h35⟩ := (hΦ 6 (by decide) : IsI 17 vv (v 6) W8)
  obtain ⟨g11, v7, q8, b7⟩ := (hΦ 7 (by decide) : IsB W7 (v 7) W8)
  replace S := S.addN (Apart.old hl.out q8) (Nat.le_trans hw q8) b7
  clear b7
  obtain ⟨g12, v8, q10, b9⟩ := (hΦ 8 (by decide) : IsB W7 (v 8) W8)
  replace S := S.addN (Apart.cons (fun h => hne 7 8 (by decide) (by decide) (by decide) (by decide) (by decide) (by rw [v7, v8, h])) (Apart.old hl.out q10)) (Nat.le_trans hw q10) b9
  clear b9
  obtain ⟨g13, v9, q12, b11⟩ := (hΦ 9 (by decide) : IsB W7 (v 9) W8)
  replace S := S.addN (Apart.cons (fun h => hne 8 9 (by decide) (by decide) (by decide) (by decide) (by decide) (by rw [v8, v9, h])) (Apart.cons (fun h => hne 7 9 (by decide) (by decide) (by decide) (by decide) (by decide) (by rw [v7, v9, h])) (Apart.old hl.out q12))) (Nat.le_trans hw q12) b11
  clear b11
  clear hne
  simp only [layL, Act.put, List.setIfInBounds_toArray, List.set_cons_zero, List.set_cons_succ, Nat.reduceAdd]
  rw [v4, v5, v6, v7, v8, v9]
  clear v4 v5 v6 v7 v8 v9
  clear hΦ
  clear hl hw
  clear e1
  obtain ⟨s8, a8, n8, c8, b8, _⟩ := S.at 2 (g11) (IsI 0 0) rfl; have F1 := b8.c0; have F2 := b8.c1; have F3 := b8.f0; have F4 := b8.f1
  refine wpList_step fun K hK => ?_; go_simp; refine hK _ _ ?_; clear hK K
  clear F1 F2 F3 F4 b8
  obtain ⟨W9, hW, S2, G2, _⟩ := S.put 2 (g11) (IsI 0 0) (IsI 8 gg) rfl s33 a33 n33 c33 (IsI.gstb _ _) ⟨_, _, _, _, rfl, h33⟩
  rw [← hW]; clear hW S
  replace h34 := h34.gr G2
  replace h35 := h35.gr G2
  have S : St w W9 [(g13, IsI 0 0), (g12, IsI 0 0), (g11, IsI 8 gg), (g10, IsI 4 zc), (g9, IsI 8 zb), (g8, IsI 8 za), (w.heap.size + 1 + 1, IsR s3 x3), (w.heap.size + 1, IsR s2 x2), (w.heap.size, IsR s1 x1)] := S2; clear S2 G2
  clear h33
  obtain ⟨s8, a8, n8, c8, b8, _⟩ := S.at 1 (g12) (IsI 0 0) rfl; have F1 := b8.c0; have F2 := b8.c1; have F3 := b8.f0; have F4 := b8.f1
  refine wpList_step fun K hK => ?_; go_simp; refine hK _ _ ?_; clear hK K
  clear F1 F2 F3 F4 b8
  obtain ⟨W10, hW, S2, G2, _⟩ := S.put 1 (g12) (IsI 0 0) (IsI 8 uu) rfl s34 a34 n34 c34 (IsI.gstb _ _) ⟨_, _, _, _, rfl, h34⟩
  rw [← hW]; clear hW S
  replace h35 := h35.gr G2
  have S : St w W10 [(g13, IsI 0 0), (g12, IsI 8 uu), (g11, IsI 8 gg), (g10, IsI 4 zc), (g9, IsI 8 zb), (g8, IsI 8 za), (w.heap.size + 1 + 1, IsR s3 x3), (w.heap.size + 1, IsR s2 x2), (w.heap.size, IsR s1 x1)] := S2; clear S2 G2
  clear h34
  obtain ⟨s8, a8, n8, c8, b8, _⟩ := S.at 0 (g13) (IsI 0 0) rfl; have F1 := b8.c0; have F2 := b8.c1; have F3 := b8.f0; have F4 := b8.f1
  refine wpList_step fun K hK => ?_; go_simp; refine hK _ _ ?_; clear hK K
  clear F1 F2 F3 F4 b8
  obtain ⟨W11, hW, S2, G2, _⟩ := S.put 0 (g13) (IsI 0 0) (IsI 17 vv) rfl s35 a35 n35 c35 (IsI.gstb _ _) ⟨_, _, _, _, rfl, h35⟩
  rw [← hW]; clear hW S
  have S : St w W11 [(g13, IsI 17 vv), (g12, IsI 8 uu), (g11, IsI 8 gg), (g10, IsI 4 zc), (g9, IsI 8 zb), (g8, IsI 8 za), (w.heap.size + 1 + 1, IsR s3 x3), (w.heap.size + 1, IsR s2 x2), (w.heap.size, IsR s1 x1)] := S2; clear S2 G2
  clear h35
  refine wpList_nil ?_
  go_upto_region 8 with (fail)
  refine wp_region_rg 31 [some 36, some 37, some 38, some 39, some 40, some 41, some 42, some 43, some 44, some 45, some 46, some 47, some 48, some 49, some 50, some 51, some 52, some 53, some 54, some 55, some 56, some 57, some 58, some 59, some 60, some 61, some 62, some 63, some 64, some 65, some 66] [IsI 8 uu, IsI 8 za, IsI 16 (uu * za), IsI 17 vv, IsI 8 zb, IsI 25 (vv * zb), IsI 26 ((uu * za) + (vv * zb)), IsI 8 gg, IsV (.bool true), IsV (.bool false), IsV (.bool false), IsI 8 gg, IsI 8 za, IsI 8 zb, IsI 8 gg, IsV (.bool true), IsV (.bool false), IsV (.bool false), IsV (.bool false), IsI 8 zb, IsI 8 za, IsI 8 gg, IsI 8 gg, IsV (.bool true), IsV (.bool false), IsV (.bool false), IsV (.bool false), IsI 8 gg, IsV (.int .i64 1), IsV (.bool false), IsV (.bool false)] [] 0 (by kernel_rfl) (by decide) (by kernel_rfl) (by kernel_rfl) (by kernel_rfl) (by kernel_rfl) (by kernel_rfl) ?_ ?_ ?_ ?_
  · repeat' (first | exact trivial | exact IsV.stb _ | exact IsI.stb _ _ | exact IsB.stb _ | exact IsR.stb _ _ | exact IsMag.stb _ _ | exact IsPos.stb | apply IsT3.stb | apply IsT2.stb | apply And.intro)
  · exact (fun _ h => by cases h)
  · refine RgAll.cons (by { (with_reducible refine RgL.mk (by rfl) ?_); intro v a w' hE hd hf; have ev0 := hf.lit 12 (.pointer (some ⟨g12, 0, none⟩)) (by kernel_rfl) (by kernel_rfl); obtain ⟨s8, a8, n8, c8, b8, h8⟩ := (S.mono hE).at 1 (g12) (IsI 8 uu) rfl; have L0 := b8.c0; have L1 := b8.c1; clear hd hf; intro K hK; go_simp; exact hK.out _ _ (Ext.refl _) h8 (FreshIf.no rfl) }) ?_
    refine RgAll.cons (by { (with_reducible refine RgL.mk (by rfl) ?_); intro v a w' hE hd hf; have ev0 := hf.lit 8 (.pointer (some ⟨g8, 0, none⟩)) (by kernel_rfl) (by kernel_rfl); obtain ⟨s8, a8, n8, c8, b8, h8⟩ := (S.mono hE).at 5 (g8) (IsI 8 za) rfl; have L0 := b8.c0; have L1 := b8.c1; clear hd hf; intro K hK; go_simp; exact hK.out _ _ (Ext.refl _) h8 (FreshIf.no rfl) }) ?_
    refine RgAll.cons (by { (with_reducible refine RgL.mk (by rfl) ?_); intro v a w' hE hd hf; have d0 : (IsI 8 uu) (v 0) w' := hd 0 (by kernel_rfl); have ev0 := hf.val 0 36 _ rfl (by kernel_rfl) (by kernel_rfl) (by kernel_rfl); have d1 : (IsI 8 za) (v 1) w' := hd 1 (by kernel_rfl); have ev1 := hf.val 1 37 _ rfl (by kernel_rfl) (by kernel_rfl) (by kernel_rfl); clear hd hf; intro K hK; go_simp; go_at_call 13; go_split_ands; (with_reducible refine Calls.mono (Mul_f d0 d1 (by decide) (by decide)) ?_); rintro e w2 ⟨x, rfl, e2, hx⟩; exact hK.out _ _ e2 hx (FreshIf.no rfl) }) ?_
    refine RgAll.cons (by { (with_reducible refine RgL.mk (by rfl) ?_); intro v a w' hE hd hf; have ev0 := hf.lit 13 (.pointer (some ⟨g13, 0, none⟩)) (by kernel_rfl) (by kernel_rfl); obtain ⟨s8, a8, n8, c8, b8, h8⟩ := (S.mono hE).at 0 (g13) (IsI 17 vv) rfl; have L0 := b8.c0; have L1 := b8.c1; clear hd hf; intro K hK; go_simp; exact hK.out _ _ (Ext.refl _) h8 (FreshIf.no rfl) }) ?_
    refine RgAll.cons (by { (with_reducible refine RgL.mk (by rfl) ?_); intro v a w' hE hd hf; have ev0 := hf.lit 9 (.pointer (some ⟨g9, 0, none⟩)) (by kernel_rfl) (by kernel_rfl); obtain ⟨s8, a8, n8, c8, b8, h8⟩ := (S.mono hE).at 4 (g9) (IsI 8 zb) rfl; have L0 := b8.c0; have L1 := b8.c1; clear hd hf; intro K hK; go_simp; exact hK.out _ _ (Ext.refl _) h8 (FreshIf.no rfl) }) ?_
    refine RgAll.cons (by { (with_reducible refine RgL.mk (by rfl) ?_); intro v a w' hE hd hf; have d0 : (IsI 17 vv) (v 3) w' := hd 3 (by kernel_rfl); have ev0 := hf.val 3 39 _ rfl (by kernel_rfl) (by kernel_rfl) (by kernel_rfl); have d1 : (IsI 8 zb) (v 4) w' := hd 4 (by kernel_rfl); have ev1 := hf.val 4 40 _ rfl (by kernel_rfl) (by kernel_rfl) (by kernel_rfl); clear hd hf; intro K hK; go_simp; go_at_call 13; go_split_ands; (with_reducible refine Calls.mono (Mul_f d0 d1 (by decide) (by decide)) ?_); rintro e w2 ⟨x, rfl, e2, hx⟩; exact hK.out _ _ e2 hx (FreshIf.no rfl) }) ?_
    refine RgAll.cons (by { (with_reducible refine RgL.mk (by rfl) ?_); intro v a w' hE hd hf; have d0 : (IsI 16 (uu * za)) (v 2) w' := hd 2 (by kernel_rfl); have ev0 := hf.val 2 38 _ rfl (by kernel_rfl) (by kernel_rfl) (by kernel_rfl); have d1 : (IsI 25 (vv * zb)) (v 5) w' := hd 5 (by kernel_rfl); have ev1 := hf.val 5 41 _ rfl (by kernel_rfl) (by kernel_rfl) (by kernel_rfl); clear hd hf; intro K hK; go_simp; go_at_call 12; go_split_ands; (with_reducible refine Calls.mono (Add_f d0 d1 (by decide) (by decide)) ?_); rintro e w2 ⟨x, rfl, e2, hx⟩; exact hK.out _ _ e2 hx (FreshIf.no rfl) }) ?_
    refine RgAll.cons (by { (with_reducible refine RgL.mk (by rfl) ?_); intro v a w' hE hd hf; have ev0 := hf.lit 11 (.pointer (some ⟨g11, 0, none⟩)) (by kernel_rfl) (by kernel_rfl); obtain ⟨s8, a8, n8, c8, b8, h8⟩ := (S.mono hE).at 2 (g11) (IsI 8 gg) rfl; have L0 := b8.c0; have L1 := b8.c1; clear hd hf; intro K hK; go_simp; exact hK.out _ _ (Ext.refl _) h8 (FreshIf.no rfl) }) ?_
    refine RgAll.cons (by { (with_reducible refine RgL.mk (by rfl) ?_); intro v a w' hE hd hf; have d0 : (IsI 26 ((uu * za) + (vv * zb))) (v 6) w' := hd 6 (by kernel_rfl); have ev0 := hf.val 6 42 _ rfl (by kernel_rfl) (by kernel_rfl) (by kernel_rfl); have d1 : (IsI 8 gg) (v 7) w' := hd 7 (by kernel_rfl); have ev1 := hf.val 7 43 _ rfl (by kernel_rfl) (by kernel_rfl) (by kernel_rfl); clear hd hf; intro K hK; go_simp; go_at_call 14; go_split_ands; (with_reducible refine Calls.mono (Same_t d0 d1 (H1.out) (by decide)) ?_); rintro e w2 ⟨x, rfl, e2, hx⟩; exact hK.out _ _ e2 hx (FreshIf.no rfl) }) ?_
    refine RgAll.cons (by { (with_reducible refine RgL.mk (by rfl) ?_); intro v a w' hE hd hf; have d0 : v 8 = .bool true := hd 8 (by kernel_rfl); have ev0 := hf.val 8 44 _ d0 (by kernel_rfl) (by kernel_rfl) (by kernel_rfl); clear d0; clear hd hf; intro K hK; go_simp; exact hK.out _ _ (Ext.refl _) rfl (FreshIf.no rfl) }) ?_
    refine RgAll.cons (by { (with_reducible refine RgL.mk (by rfl) ?_); intro v a w' hE hd hf; have d0 : v 9 = .bool false := hd 9 (by kernel_rfl); have ev0 := hf.val 9 45 _ d0 (by kernel_rfl) (by kernel_rfl) (by kernel_rfl); clear d0; clear hd hf; intro K hK; go_simp; exact hK.out _ _ (Ext.refl _) rfl (FreshIf.no rfl) }) ?_
    refine RgAll.cons (by { (with_reducible refine RgL.mkG 10 46 false (by rfl) (by kernel_rfl) (by kernel_rfl) (by kernel_rfl) (by kernel_rfl) (by kernel_rfl) ?_ ?_); (focus (intro _ _ h; exact h)); intro v a w' hE hd hf; have ev0 := hf.lit 11 (.pointer (some ⟨g11, 0, none⟩)) (by kernel_rfl) (by kernel_rfl); obtain ⟨s8, a8, n8, c8, b8, h8⟩ := (S.mono hE).at 2 (g11) (IsI 8 gg) rfl; have L0 := b8.c0; have L1 := b8.c1; clear hd hf; intro K hK; go_simp; exact hK.out _ _ (Ext.refl _) h8 (FreshIf.no rfl) }) ?_
    refine RgAll.cons (by { (with_reducible refine RgL.mkG 10 46 false (by rfl) (by kernel_rfl) (by kernel_rfl) (by kernel_rfl) (by kernel_rfl) (by kernel_rfl) ?_ ?_); (focus (intro _ _ h; exact h)); intro v a w' hE hd hf; have ev0 := hf.lit 8 (.pointer (some ⟨g8, 0, none⟩)) (by kernel_rfl) (by kernel_rfl); obtain ⟨s8, a8, n8, c8, b8, h8⟩ := (S.mono hE).at 5 (g8) (IsI 8 za) rfl; have L0 := b8.c0; have L1 := b8.c1; clear hd hf; intro K hK; go_simp; exact hK.out _ _ (Ext.refl _) h8 (FreshIf.no rfl) }) ?_
    refine RgAll.cons (by { (with_reducible refine RgL.mkG 10 46 false (by rfl) (by kernel_rfl) (by kernel_rfl) (by kernel_rfl) (by kernel_rfl) (by kernel_rfl) ?_ ?_); (focus (intro _ _ h; exact h)); intro v a w' hE hd hf; have ev0 := hf.lit 9 (.pointer (some ⟨g9, 0, none⟩)) (by kernel_rfl) (by kernel_rfl); obtain ⟨s8, a8, n8, c8, b8, h8⟩ := (S.mono hE).at 4 (g9) (IsI 8 zb) rfl; have L0 := b8.c0; have L1 := b8.c1; clear hd hf; intro K hK; go_simp; exact hK.out _ _ (Ext.refl _) h8 (FreshIf.no rfl) }) ?_
    refine RgAll.cons (by { (with_reducible refine RgL.mkG 10 46 false (by rfl) (by kernel_rfl) (by kernel_rfl) (by kernel_rfl) (by kernel_rfl) (by kernel_rfl) ?_ ?_); (focus (intro _ _ h; exact h)); intro v a w' hE hd hf; have d0 : (IsI 8 za) (v 12) w' := hd 12 (by kernel_rfl); have ev0 := hf.val 12 48 _ rfl (by kernel_rfl) (by kernel_rfl) (by kernel_rfl); have d1 : (IsI 8 zb) (v 13) w' := hd 13 (by kernel_rfl); have ev1 := hf.val 13 49 _ rfl (by kernel_rfl) (by kernel_rfl) (by kernel_rfl); clear hd hf; intro K hK; go_simp; go_at_call 19; go_split_ands; (with_reducible refine Calls.mono (Calls.mono (Gcd_f d0 d1 (by decide) (by decide)) fun _ _ h => h.eqz (HG.out)) ?_); rintro e w2 ⟨x, rfl, e2, hx⟩; exact hK.out _ _ e2 hx (FreshIf.no rfl) }) ?_
    refine RgAll.cons (by { (with_reducible refine RgL.mkG 10 46 false (by rfl) (by kernel_rfl) (by kernel_rfl) (by kernel_rfl) (by kernel_rfl) (by kernel_rfl) ?_ ?_); (focus (intro _ _ h; exact h)); intro v a w' hE hd hf; have d0 : (IsI 8 gg) (v 11) w' := hd 11 (by kernel_rfl); have ev0 := hf.val 11 47 _ rfl (by kernel_rfl) (by kernel_rfl) (by kernel_rfl); have d1 : (IsI 8 gg) (v 14) w' := hd 14 (by kernel_rfl); have ev1 := hf.val 14 50 _ rfl (by kernel_rfl) (by kernel_rfl) (by kernel_rfl); clear hd hf; intro K hK; go_simp; go_at_call 14; go_split_ands; (with_reducible refine Calls.mono (Same_t d0 d1 (rfl) (by decide)) ?_); rintro e w2 ⟨x, rfl, e2, hx⟩; exact hK.out _ _ e2 hx (FreshIf.no rfl) }) ?_
    refine RgAll.cons (by { (with_reducible refine RgL.mkG 10 46 false (by rfl) (by kernel_rfl) (by kernel_rfl) (by kernel_rfl) (by kernel_rfl) (by kernel_rfl) ?_ ?_); (focus (intro _ _ h; exact h)); intro v a w' hE hd hf; have d0 : v 15 = .bool true := hd 15 (by kernel_rfl); have ev0 := hf.val 15 51 _ d0 (by kernel_rfl) (by kernel_rfl) (by kernel_rfl); clear d0; clear hd hf; intro K hK; go_simp; exact hK.out _ _ (Ext.refl _) rfl (FreshIf.no rfl) }) ?_
    refine RgAll.cons (by { (with_reducible refine RgL.mk (by rfl) ?_); intro v a w' hE hd hf; have d0 : v 10 = .bool false := hd 10 (by kernel_rfl); have ev0 := hf.val 10 46 _ d0 (by kernel_rfl) (by kernel_rfl) (by kernel_rfl); clear d0; have d1 : v 16 = .bool false := hd 16 (by kernel_rfl); have ev1 := hf.val 16 52 _ d1 (by kernel_rfl) (by kernel_rfl) (by kernel_rfl); clear d1; clear hd hf; intro K hK; go_simp; exact hK.out _ _ (Ext.refl _) rfl (FreshIf.no rfl) }) ?_
    refine RgAll.cons (by { (with_reducible refine RgL.mk (by rfl) ?_); intro v a w' hE hd hf; have d0 : v 17 = .bool false := hd 17 (by kernel_rfl); have ev0 := hf.val 17 53 _ d0 (by kernel_rfl) (by kernel_rfl) (by kernel_rfl); clear d0; clear hd hf; intro K hK; go_simp; exact hK.out _ _ (Ext.refl _) rfl (FreshIf.no rfl) }) ?_
    refine RgAll.cons (by { (with_reducible refine RgL.mkG 18 54 false (by rfl) (by kernel_rfl) (by kernel_rfl) (by kernel_rfl) (by kernel_rfl) (by kernel_rfl) ?_ ?_); (focus (intro _ _ h; exact h)); intro v a w' hE hd hf; have ev0 := hf.lit 9 (.pointer (some ⟨g9, 0, none⟩)) (by kernel_rfl) (by kernel_rfl); obtain ⟨s8, a8, n8, c8, b8, h8⟩ := (S.mono hE).at 4 (g9) (IsI 8 zb) rfl; have L0 := b8.c0; have L1 := b8.c1; clear hd hf; intro K hK; go_simp; exact hK.out _ _ (Ext.refl _) h8 (FreshIf.no rfl) }) ?_
    refine RgAll.cons (by { (with_reducible refine RgL.mkG 18 54 false (by rfl) (by kernel_rfl) (by kernel_rfl) (by kernel_rfl) (by kernel_rfl) (by kernel_rfl) ?_ ?_); (focus (intro _ _ h; exact h)); intro v a w' hE hd hf; have ev0 := hf.lit 8 (.pointer (some ⟨g8, 0, none⟩)) (by kernel_rfl) (by kernel_rfl); obtain ⟨s8, a8, n8, c8, b8, h8⟩ := (S.mono hE).at 5 (g8) (IsI 8 za) rfl; have L0 := b8.c0; have L1 := b8.c1; clear hd hf; intro K hK; go_simp; exact hK.out _ _ (Ext.refl _) h8 (FreshIf.no rfl) }) ?_
    refine RgAll.cons (by { (with_reducible refine RgL.mkG 18 54 false (by rfl) (by kernel_rfl) (by kernel_rfl) (by kernel_rfl) (by kernel_rfl) (by kernel_rfl) ?_ ?_); (focus (intro _ _ h; exact h)); intro v a w' hE hd hf; have d0 : (IsI 8 zb) (v 19) w' := hd 19 (by kernel_rfl); have ev0 := hf.val 19 55 _ rfl (by kernel_rfl) (by kernel_rfl) (by kernel_rfl); have d1 : (IsI 8 za) (v 20) w' := hd 20 (by kernel_rfl); have ev1 := hf.val 20 56 _ rfl (by kernel_rfl) (by kernel_rfl) (by kernel_rfl); clear hd hf; intro K hK; go_simp; go_at_call 19; go_split_ands; (with_reducible refine Calls.mono (Calls.mono (Gcd_f d0 d1 (by decide) (by decide)) fun _ _ h => h.eqz (HG2.out)) ?_); rintro e w2 ⟨x, rfl, e2, hx⟩; exact hK.out _ _ e2 hx (FreshIf.no rfl) }) ?_
    refine RgAll.cons (by { (with_reducible refine RgL.mkG 18 54 false (by rfl) (by kernel_rfl) (by kernel_rfl) (by kernel_rfl) (by kernel_rfl) (by kernel_rfl) ?_ ?_); (focus (intro _ _ h; exact h)); intro v a w' hE hd hf; have ev0 := hf.lit 11 (.pointer (some ⟨g11, 0, none⟩)) (by kernel_rfl) (by kernel_rfl); obtain ⟨s8, a8, n8, c8, b8, h8⟩ := (S.mono hE).at 2 (g11) (IsI 8 gg) rfl; have L0 := b8.c0; have L1 := b8.c1; clear hd hf; intro K hK; go_simp; exact hK.out _ _ (Ext.refl _) h8 (FreshIf.no rfl) }) ?_
    refine RgAll.cons (by { (with_reducible refine RgL.mkG 18 54 false (by rfl) (by kernel_rfl) (by kernel_rfl) (by kernel_rfl) (by kernel_rfl) (by kernel_rfl) ?_ ?_); (focus (intro _ _ h; exact h)); intro v a w' hE hd hf; have d0 : (IsI 8 gg) (v 21) w' := hd 21 (by kernel_rfl); have ev0 := hf.val 21 57 _ rfl (by kernel_rfl) (by kernel_rfl) (by kernel_rfl); have d1 : (IsI 8 gg) (v 22) w' := hd 22 (by kernel_rfl); have ev1 := hf.val 22 58 _ rfl (by kernel_rfl) (by kernel_rfl) (by kernel_rfl); clear hd hf; intro K hK; go_simp; go_at_call 14; go_split_ands; (with_reducible refine Calls.mono (Same_t d0 d1 (rfl) (by decide)) ?_); rintro e w2 ⟨x, rfl, e2, hx⟩; exact hK.out _ _ e2 hx (FreshIf.no rfl) }) ?_
    refine RgAll.cons (by { (with_reducible refine RgL.mkG 18 54 false (by rfl) (by kernel_rfl) (by kernel_rfl) (by kernel_rfl) (by kernel_rfl) (by kernel_rfl) ?_ ?_); (focus (intro _ _ h; exact h)); intro v a w' hE hd hf; have d0 : v 23 = .bool true := hd 23 (by kernel_rfl); have ev0 := hf.val 23 59 _ d0 (by kernel_rfl) (by kernel_rfl) (by kernel_rfl); clear d0; clear hd hf; intro K hK; go_simp; exact hK.out _ _ (Ext.refl _) rfl (FreshIf.no rfl) }) ?_
    refine RgAll.cons (by { (with_reducible refine RgL.mk (by rfl) ?_); intro v a w' hE hd hf; have d0 : v 18 = .bool false := hd 18 (by kernel_rfl); have ev0 := hf.val 18 54 _ d0 (by kernel_rfl) (by kernel_rfl) (by kernel_rfl); clear d0; have d1 : v 24 = .bool false := hd 24 (by kernel_rfl); have ev1 := hf.val 24 60 _ d1 (by kernel_rfl) (by kernel_rfl) (by kernel_rfl); clear d1; clear hd hf; intro K hK; go_simp; exact hK.out _ _ (Ext.refl _) rfl (FreshIf.no rfl) }) ?_
    refine RgAll.cons (by { (with_reducible refine RgL.mk (by rfl) ?_); intro v a w' hE hd hf; have d0 : v 25 = .bool false := hd 25 (by kernel_rfl); have ev0 := hf.val 25 61 _ d0 (by kernel_rfl) (by kernel_rfl) (by kernel_rfl); clear d0; clear hd hf; intro K hK; go_simp; exact hK.out _ _ (Ext.refl _) rfl (FreshIf.no rfl) }) ?_
    refine RgAll.cons (by { (with_reducible refine RgL.mkG 26 62 false (by rfl) (by kernel_rfl) (by kernel_rfl) (by kernel_rfl) (by kernel_rfl) (by kernel_rfl) ?_ ?_); (focus (intro _ _ h; exact h)); intro v a w' hE hd hf; have ev0 := hf.lit 11 (.pointer (some ⟨g11, 0, none⟩)) (by kernel_rfl) (by kernel_rfl); obtain ⟨s8, a8, n8, c8, b8, h8⟩ := (S.mono hE).at 2 (g11) (IsI 8 gg) rfl; have L0 := b8.c0; have L1 := b8.c1; clear hd hf; intro K hK; go_simp; exact hK.out _ _ (Ext.refl _) h8 (FreshIf.no rfl) }) ?_
    refine RgAll.cons (by { (with_reducible refine RgL.mkG 26 62 false (by rfl) (by kernel_rfl) (by kernel_rfl) (by kernel_rfl) (by kernel_rfl) (by kernel_rfl) ?_ ?_); (focus (intro _ _ h; exact h)); intro v a w' hE hd hf; have d0 : (IsI 8 gg) (v 27) w' := hd 27 (by kernel_rfl); have ev0 := hf.val 27 63 _ rfl (by kernel_rfl) (by kernel_rfl) (by kernel_rfl); clear hd hf; intro K hK; go_simp; go_at_call 15; go_split_ands; (with_reducible refine Calls.mono (Calls.mono (Sign_f d0) fun _ _ h => h.int (HSg.out)) ?_); rintro e w2 ⟨x, rfl, e2, hx⟩; exact hK.out _ _ e2 hx (FreshIf.no rfl) }) ?_
    refine RgAll.cons (by { (with_reducible refine RgL.mkG 26 62 false (by rfl) (by kernel_rfl) (by kernel_rfl) (by kernel_rfl) (by kernel_rfl) (by kernel_rfl) ?_ ?_); (focus (intro _ _ h; exact h)); intro v a w' hE hd hf; have d0 : v 28 = .int .i64 1 := hd 28 (by kernel_rfl); have ev0 := hf.val 28 64 _ d0 (by kernel_rfl) (by kernel_rfl) (by kernel_rfl); clear d0; clear hd hf; intro K hK; go_simp; exact hK.out _ _ (Ext.refl _) rfl (FreshIf.no rfl) }) ?_
    refine RgAll.cons (by { (with_reducible refine RgL.mk (by rfl) ?_); intro v a w' hE hd hf; have d0 : v 26 = .bool false := hd 26 (by kernel_rfl); have ev0 := hf.val 26 62 _ d0 (by kernel_rfl) (by kernel_rfl) (by kernel_rfl); clear d0; have d1 : v 29 = .bool false := hd 29 (by kernel_rfl); have ev1 := hf.val 29 65 _ d1 (by kernel_rfl) (by kernel_rfl) (by kernel_rfl); clear d1; clear hd hf; intro K hK; go_simp; exact hK.out _ _ (Ext.refl _) rfl (FreshIf.no rfl) }) ?_
    exact RgAll.nil
  intro v W12 e1 hΦ _
  replace S := S.mono e1
  have v30 : v 30 = .bool false := hΦ 30 (by decide)
  simp only [layL, Act.put, List.setIfInBounds_toArray, List.set_cons_zero, List.set_cons_succ, Nat.reduceAdd]
  rw [v30]
  clear v30
  clear hΦ
  clear e1
  refine wpAny_done (by kernel_rfl) ?_ _
  go_upto_region 10 with (fail)
  refine wp_region_rgs 4 [some 67, some 68, some 69, some 70] [IsV (.pointer (some ⟨g11, 1, none⟩)), IsMag 8 gg, IsPos, IsV (.bool false)] [] (by decide) (by kernel_rfl) (by kernel_rfl) (by kernel_rfl) ?_ ?_ ?_ ?_
  · repeat' (first | exact trivial | exact IsV.stb _ | exact IsI.stb _ _ | exact IsB.stb _ | exact IsR.stb _ _ | exact IsMag.stb _ _ | exact IsPos.stb | apply IsT3.stb | apply IsT2.stb | apply And.intro)
  · exact (fun _ h => by cases h)
  · refine RgAll.cons (by { (with_reducible refine RgL.mk (by rfl) ?_); intro v a w' hE hd hf; have ev0 := hf.lit 11 (.pointer (some ⟨g11, 0, none⟩)) (by kernel_rfl) (by kernel_rfl); clear hd hf; intro K hK; go_simp; exact hK.out _ _ (Ext.refl _) rfl (FreshIf.no rfl) }) ?_
    refine RgAll.cons (by { (with_reducible refine RgL.mk (by rfl) ?_); intro v a w' hE hd hf; have d0 : v 0 = .pointer (some ⟨g11, 1, none⟩) := hd 0 (by kernel_rfl); have ev0 := hf.val 0 67 _ d0 (by kernel_rfl) (by kernel_rfl) (by kernel_rfl); clear d0; obtain ⟨s8, a8, n8, c8, b8, h8⟩ := (S.mono hE).at 2 (g11) (IsI 8 gg) rfl; have L0 := b8.c0; have L1 := b8.c1; obtain ⟨s9, a9, n9, c9, k9, h9⟩ := h8; injection k9 with k9; simp only [Array.mk.injEq, List.cons.injEq, Value.bool.injEq, Value.slice.injEq, and_true] at k9; obtain ⟨rfl, rfl, rfl, rfl⟩ := k9; clear hd hf; intro K hK; go_simp; exact hK.out _ _ (Ext.refl _) ⟨_, _, _, _, rfl, h9⟩ (FreshIf.no rfl) }) ?_
    refine RgAll.cons (by { (with_reducible refine RgL.mk (by rfl) ?_); intro v a w' hE hd hf; have d0 : (IsMag 8 gg) (v 1) w' := hd 1 (by kernel_rfl); obtain ⟨s9, a9, n9, c9, z0, h9⟩ := d0; have ev0 := hf.val 1 68 _ z0 (by kernel_rfl) (by kernel_rfl) (by kernel_rfl); clear z0; clear hd hf; intro K hK; go_simp; exact hK.out _ _ (Ext.refl _) ⟨n9, rfl, Nat.pos_of_ne_zero (fun h0 => (Hg0.out) (h9.zero_iff.2 h0)), h9.len⟩ (FreshIf.no rfl) }) ?_
    refine RgAll.cons (by { (with_reducible refine RgL.mk (by rfl) ?_); intro v a w' hE hd hf; have d0 : IsPos (v 2) w' := hd 2 (by kernel_rfl); obtain ⟨n9, z0, p9, q9⟩ := d0; have ev0 := hf.val 2 69 _ z0 (by kernel_rfl) (by kernel_rfl) (by kernel_rfl); clear z0; have hb9 : ((n9 : Int) == 0) = false := (by rw [beq_eq_false_iff_ne]; omega); have hb8 : decide ((0 : Int) < (n9 : Int)) = true := (by simp; omega); have hb7 : decide (0 < n9) = true := (by simp; omega); have hb6 : (n9 == 0) = false := (by rw [beq_eq_false_iff_ne]; omega); clear hd hf; intro K hK; go_simp; exact hK.out _ _ (Ext.refl _) rfl (FreshIf.no rfl) }) ?_
    exact RgAll.nil
  intro v W13 e1 hΦ _
  replace S := S.mono e1
  have v3 : v 3 = .bool false := hΦ 3 (by decide)
  simp only [layL, Act.put, List.setIfInBounds_toArray, List.set_cons_zero, List.set_cons_succ, Nat.reduceAdd]
  rw [v3]
  clear v3
  clear hΦ
  clear e1
  refine wpList_nil ?_
  go_upto_region 12 with (fail)
  have hl := hid S.lt; have hw := S.ext.size
  refine wp_region_rgs 9 [some 83, some 84, some 85, some 82, some 86, some 87, some 88, some 14, some 15] [IsI 8 za, IsI 8 gg, IsT3 (IsI 8 (za / gg)) (IsI 8 (za % gg)) (IsV (.int .i64 0)), IsT3 (IsI 8 (za / gg)) (IsI 8 (za % gg)) (IsV (.int .i64 0)), IsI 8 (za / gg), IsI 8 (za % gg), IsV (.int .i64 0), IsB W13, IsB W13] [7, 8] (by decide) (by kernel_rfl) (by kernel_rfl) (by kernel_rfl) ?_ ?_ ?_ ?_
  · repeat' (first | exact trivial | exact IsV.stb _ | exact IsI.stb _ _ | exact IsB.stb _ | exact IsR.stb _ _ | exact IsMag.stb _ _ | exact IsPos.stb | apply IsT3.stb | apply IsT2.stb | apply And.intro)
  · intro i hi; simp only [List.mem_cons, List.not_mem_nil, or_false] at hi; rcases hi with rfl | rfl <;> exact IsB.box _
  · refine RgAll.cons (by { (with_reducible refine RgL.mk (by rfl) ?_); intro v a w' hE hd hf; have ev0 := hf.lit 8 (.pointer (some ⟨g8, 0, none⟩)) (by kernel_rfl) (by kernel_rfl); obtain ⟨s8, a8, n8, c8, b8, h8⟩ := (S.mono hE).at 5 (g8) (IsI 8 za) rfl; have L0 := b8.c0; have L1 := b8.c1; clear hd hf; intro K hK; go_simp; exact hK.out _ _ (Ext.refl _) h8 (FreshIf.no rfl) }) ?_
    refine RgAll.cons (by { (with_reducible refine RgL.mk (by rfl) ?_); intro v a w' hE hd hf; have ev0 := hf.lit 11 (.pointer (some ⟨g11, 0, none⟩)) (by kernel_rfl) (by kernel_rfl); obtain ⟨s8, a8, n8, c8, b8, h8⟩ := (S.mono hE).at 2 (g11) (IsI 8 gg) rfl; have L0 := b8.c0; have L1 := b8.c1; clear hd hf; intro K hK; go_simp; exact hK.out _ _ (Ext.refl _) h8 (FreshIf.no rfl) }) ?_
    refine RgAll.cons (by { (with_reducible refine RgL.mk (by rfl) ?_); intro v a w' hE hd hf; have d0 : (IsI 8 za) (v 0) w' := hd 0 (by kernel_rfl); have ev0 := hf.val 0 83 _ rfl (by kernel_rfl) (by kernel_rfl) (by kernel_rfl); have d1 : (IsI 8 gg) (v 1) w' := hd 1 (by kernel_rfl); have ev1 := hf.val 1 84 _ rfl (by kernel_rfl) (by kernel_rfl) (by kernel_rfl); clear hd hf; intro K hK; go_simp; go_at_call 11; go_split_ands; (with_reducible refine Calls.mono (DivMod_f d0 d1 (by decide) (by decide) (Hg0.out)) ?_); rintro e w2 ⟨x, rfl, e2, hx⟩; exact hK.out _ _ e2 hx (FreshIf.no rfl) }) ?_
    refine RgAll.cons (by { (with_reducible refine RgL.mk (by rfl) ?_); intro v a w' hE hd hf; have d0 : (IsT3 (IsI 8 (za / gg)) (IsI 8 (za % gg)) (IsV (.int .i64 0))) (v 2) w' := hd 2 (by kernel_rfl); have ev0 := hf.val 2 85 _ rfl (by kernel_rfl) (by kernel_rfl) (by kernel_rfl); clear hd hf; intro K hK; go_simp; exact hK.out _ _ (Ext.refl _) d0 (FreshIf.no rfl) }) ?_
    refine RgAll.cons (by { (with_reducible refine RgL.mk (by rfl) ?_); intro v a w' hE hd hf; have d0 : (IsT3 (IsI 8 (za / gg)) (IsI 8 (za % gg)) (IsV (.int .i64 0))) (v 3) w' := hd 3 (by kernel_rfl); obtain ⟨x0, x1, x2, z0, y0, y1, y2⟩ := d0; have ev0 := hf.val 3 82 _ z0 (by kernel_rfl) (by kernel_rfl) (by kernel_rfl); clear z0; clear hd hf; intro K hK; go_simp; exact hK.out _ _ (Ext.refl _) y0 (FreshIf.no rfl) }) ?_
    refine RgAll.cons (by { (with_reducible refine RgL.mk (by rfl) ?_); intro v a w' hE hd hf; have d0 : (IsT3 (IsI 8 (za / gg)) (IsI 8 (za % gg)) (IsV (.int .i64 0))) (v 3) w' := hd 3 (by kernel_rfl); obtain ⟨x0, x1, x2, z0, y0, y1, y2⟩ := d0; have ev0 := hf.val 3 82 _ z0 (by kernel_rfl) (by kernel_rfl) (by kernel_rfl); clear z0; clear hd hf; intro K hK; go_simp; exact hK.out _ _ (Ext.refl _) y1 (FreshIf.no rfl) }) ?_
    refine RgAll.cons (by { (with_reducible refine RgL.mk (by rfl) ?_); intro v a w' hE hd hf; have d0 : (IsT3 (IsI 8 (za / gg)) (IsI 8 (za % gg)) (IsV (.int .i64 0))) (v 3) w' := hd 3 (by kernel_rfl); obtain ⟨x0, x1, x2, z0, y0, y1, y2⟩ := d0; have ev0 := hf.val 3 82 _ z0 (by kernel_rfl) (by kernel_rfl) (by kernel_rfl); clear z0; clear hd hf; intro K hK; go_simp; exact hK.out _ _ (Ext.refl _) y2 (FreshIf.no rfl) }) ?_
    refine RgAll.cons (by { (with_reducible refine RgL.mk (by rfl) ?_); intro v a w' hE hd hf; skip; clear hd hf; intro K hK; go_simp; refine hK.out _ _ ((Ext.refl _).alloc _) ⟨_, rfl, hE.size, Bx.new _ _ _ _ _⟩ FreshIf.yes }) ?_
    refine RgAll.cons (by { (with_reducible refine RgL.mk (by rfl) ?_); intro v a w' hE hd hf; skip; clear hd hf; intro K hK; go_simp; refine hK.out _ _ ((Ext.refl _).alloc _) ⟨_, rfl, hE.size, Bx.new _ _ _ _ _⟩ FreshIf.yes }) ?_
    exact RgAll.nil
  intro v W14 e1 hΦ hne
  replace S := S.mono e1
  obtain ⟨s86, a86, n86, c86, v4, h86⟩ := (hΦ 4 (by decide) : IsI 8 (za / gg) (v 4) W14)
  obtain ⟨s87, a87, n87, c87, v5, h87⟩ := (hΦ 5 (by decide) : IsI 8 (za % gg) (v 5) W14)
  have v6 : v 6 = .int .i64 0 := hΦ 6 (by decide)
  obtain ⟨g14, v7, q14, b13⟩ := (hΦ 7 (by decide) : IsB W13 (v 7) W14)
  replace S := S.addN (Apart.old hl.out q14) (Nat.le_trans hw q14) b13
  clear b13
  obtain ⟨g15, v8, q16, b15⟩ := (hΦ 8 (by decide) : IsB W13 (v 8) W14)
  replace S := S.addN (Apart.cons (fun h => hne 7 8 (by decide) (by decide) (by decide) (by decide) (by decide) (by rw [v7, v8, h])) (Apart.old hl.out q16)) (Nat.le_trans hw q16) b15
  clear b15
  clear hne
  simp only [layL, Act.put, List.setIfInBounds_toArray, List.set_cons_zero, List.set_cons_succ, Nat.reduceAdd]
  rw [v4, v5, v6, v7, v8]
  clear v4 v5 v6 v7 v8
  clear hΦ
  clear hl hw
  clear e1
  obtain ⟨s8, a8, n8, c8, b8, _⟩ := S.at 1 (g14) (IsI 0 0) rfl; have F1 := b8.c0; have F2 := b8.c1; have F3 := b8.f0; have F4 := b8.f1
  refine wpList_step fun K hK => ?_; go_simp; refine hK _ _ ?_; clear hK K
  clear F1 F2 F3 F4 b8
  obtain ⟨W15, hW, S2, G2, _⟩ := S.put 1 (g14) (IsI 0 0) (IsI 8 (za / gg)) rfl s86 a86 n86 c86 (IsI.gstb _ _) ⟨_, _, _, _, rfl, h86⟩
  rw [← hW]; clear hW S
  replace h87 := h87.gr G2
  have S : St w W15 [(g15, IsI 0 0), (g14, IsI 8 (za / gg)), (g13, IsI 17 vv), (g12, IsI 8 uu), (g11, IsI 8 gg), (g10, IsI 4 zc), (g9, IsI 8 zb), (g8, IsI 8 za), (w.heap.size + 1 + 1, IsR s3 x3), (w.heap.size + 1, IsR s2 x2), (w.heap.size, IsR s1 x1)] := S2; clear S2 G2
  clear h86
  obtain ⟨s8, a8, n8, c8, b8, _⟩ := S.at 0 (g15) (IsI 0 0) rfl; have F1 := b8.c0; have F2 := b8.c1; have F3 := b8.f0; have F4 := b8.f1
  refine wpList_step fun K hK => ?_; go_simp; refine hK _ _ ?_; clear hK K
  clear F1 F2 F3 F4 b8
  obtain ⟨W16, hW, S2, G2, _⟩ := S.put 0 (g15) (IsI 0 0) (IsI 8 (za % gg)) rfl s87 a87 n87 c87 (IsI.gstb _ _) ⟨_, _, _, _, rfl, h87⟩
  rw [← hW]; clear hW S
  have S : St w W16 [(g15, IsI 8 (za % gg)), (g14, IsI 8 (za / gg)), (g13, IsI 17 vv), (g12, IsI 8 uu), (g11, IsI 8 gg), (g10, IsI 4 zc), (g9, IsI 8 zb), (g8, IsI 8 za), (w.heap.size + 1 + 1, IsR s3 x3), (w.heap.size + 1, IsR s2 x2), (w.heap.size, IsR s1 x1)] := S2; clear S2 G2
  clear h87
  refine wpList_step fun K hK => ?_; go_simp; refine hK _ _ ?_; clear hK K
  refine wpList_nil ?_
  go_upto_region 13 with (fail)
  have hl := hid S.lt; have hw := S.ext.size
  refine wp_region_rgO 10 [6, 7] [some 90, some 91, some 92, some 93, some 89, some 94, some 95, some 96, some 17, some 18] [IsI 8 zb, IsI 8 zb.natAbs, IsI 8 gg, IsT3 (IsI 8 (zb.natAbs / gg)) (IsI 8 (zb.natAbs % gg)) (IsV (.int .i64 0)), IsT3 (IsI 8 (zb.natAbs / gg)) (IsI 8 (zb.natAbs % gg)) (IsV (.int .i64 0)), IsI 8 (zb.natAbs / gg), IsI 8 (zb.natAbs % gg), IsV (.int .i64 0), IsB W16, IsB W16] [8, 9] 3 (by kernel_rfl) (by decide) (by kernel_rfl) (by kernel_rfl) (by kernel_rfl) (by kernel_rfl) (by kernel_rfl) (by kernel_rfl) ?_ ?_ ?_ ?_ ?_
  · repeat' (first | exact trivial | exact IsV.stb _ | exact IsI.stb _ _ | exact IsB.stb _ | exact IsR.stb _ _ | exact IsMag.stb _ _ | exact IsPos.stb | apply IsT3.stb | apply IsT2.stb | apply And.intro)
  · intro i hi; simp only [List.mem_cons, List.not_mem_nil, or_false] at hi; rcases hi with rfl | rfl <;> exact IsB.box _
  · intro i hi; simp only [List.mem_cons, List.not_mem_nil, or_false] at hi; rcases hi with rfl | rfl
    · (intro v w' hE hd; have d0 : (IsT3 (IsI 8 (zb.natAbs / gg)) (IsI 8 (zb.natAbs % gg)) (IsV (.int .i64 0))) (v 4) w' := hd 4 (by kernel_rfl); obtain ⟨x0, x1, x2, z0, y0, y1, y2⟩ := d0; refine ⟨_, _, rfl, Or.inl ⟨by rfl, ?_⟩, y1⟩; intro w9; simp only [layL, Act.put, List.setIfInBounds_toArray, List.set_cons_zero, List.set_cons_succ, Nat.reduceAdd]; rw [z0]; go_simp)
    · (intro v w' hE hd; have d0 : (IsT3 (IsI 8 (zb.natAbs / gg)) (IsI 8 (zb.natAbs % gg)) (IsV (.int .i64 0))) (v 4) w' := hd 4 (by kernel_rfl); obtain ⟨x0, x1, x2, z0, y0, y1, y2⟩ := d0; refine ⟨_, _, rfl, Or.inl ⟨by rfl, ?_⟩, y2⟩; intro w9; simp only [layL, Act.put, List.setIfInBounds_toArray, List.set_cons_zero, List.set_cons_succ, Nat.reduceAdd]; rw [z0]; go_simp)
  · refine RgAll.cons (by { (with_reducible refine RgL.mk (by rfl) ?_); intro v a w' hE hd hf; have ev0 := hf.lit 9 (.pointer (some ⟨g9, 0, none⟩)) (by kernel_rfl) (by kernel_rfl); obtain ⟨s8, a8, n8, c8, b8, h8⟩ := (S.mono hE).at 6 (g9) (IsI 8 zb) rfl; have L0 := b8.c0; have L1 := b8.c1; clear hd hf; intro K hK; go_simp; exact hK.out _ _ (Ext.refl _) h8 (FreshIf.no rfl) }) ?_
    refine RgAll.cons (by { (with_reducible refine RgL.mk (by rfl) ?_); intro v a w' hE hd hf; have d0 : (IsI 8 zb) (v 0) w' := hd 0 (by kernel_rfl); have ev0 := hf.val 0 90 _ rfl (by kernel_rfl) (by kernel_rfl) (by kernel_rfl); clear hd hf; intro K hK; go_simp; go_at_call 17; go_split_ands; (with_reducible refine Calls.mono (Abs_f d0) ?_); rintro e w2 ⟨x, rfl, e2, hx⟩; exact hK.out _ _ e2 hx (FreshIf.no rfl) }) ?_
    refine RgAll.cons (by { (with_reducible refine RgL.mk (by rfl) ?_); intro v a w' hE hd hf; have ev0 := hf.lit 11 (.pointer (some ⟨g11, 0, none⟩)) (by kernel_rfl) (by kernel_rfl); obtain ⟨s8, a8, n8, c8, b8, h8⟩ := (S.mono hE).at 4 (g11) (IsI 8 gg) rfl; have L0 := b8.c0; have L1 := b8.c1; clear hd hf; intro K hK; go_simp; exact hK.out _ _ (Ext.refl _) h8 (FreshIf.no rfl) }) ?_
    refine RgAll.cons (by { (with_reducible refine RgL.mk (by rfl) ?_); intro v a w' hE hd hf; have d0 : (IsI 8 zb.natAbs) (v 1) w' := hd 1 (by kernel_rfl); have ev0 := hf.val 1 91 _ rfl (by kernel_rfl) (by kernel_rfl) (by kernel_rfl); have d1 : (IsI 8 gg) (v 2) w' := hd 2 (by kernel_rfl); have ev1 := hf.val 2 92 _ rfl (by kernel_rfl) (by kernel_rfl) (by kernel_rfl); clear hd hf; intro K hK; go_simp; go_at_call 11; go_split_ands; (with_reducible refine Calls.mono (DivMod_f d0 d1 (by decide) (by decide) (Hg0.out)) ?_); rintro e w2 ⟨x, rfl, e2, hx⟩; exact hK.out _ _ e2 hx (FreshIf.no rfl) }) ?_
    refine RgAll.cons (by { (with_reducible refine RgL.mk (by rfl) ?_); intro v a w' hE hd hf; have d0 : (IsT3 (IsI 8 (zb.natAbs / gg)) (IsI 8 (zb.natAbs % gg)) (IsV (.int .i64 0))) (v 3) w' := hd 3 (by kernel_rfl); have ev0 := hf.val 3 93 _ rfl (by kernel_rfl) (by kernel_rfl) (by kernel_rfl); clear hd hf; intro K hK; go_simp; exact hK.out _ _ (Ext.refl _) d0 (FreshIf.no rfl) }) ?_
    refine RgAll.cons (by { (with_reducible refine RgL.mk (by rfl) ?_); intro v a w' hE hd hf; have d0 : (IsT3 (IsI 8 (zb.natAbs / gg)) (IsI 8 (zb.natAbs % gg)) (IsV (.int .i64 0))) (v 4) w' := hd 4 (by kernel_rfl); obtain ⟨x0, x1, x2, z0, y0, y1, y2⟩ := d0; have ev0 := hf.val 4 89 _ z0 (by kernel_rfl) (by kernel_rfl) (by kernel_rfl); clear z0; clear hd hf; intro K hK; go_simp; exact hK.out _ _ (Ext.refl _) y0 (FreshIf.no rfl) }) ?_
    refine RgAll.cons (by { (with_reducible refine RgL.mk (by rfl) ?_); intro v a w' hE hd hf; have d0 : (IsT3 (IsI 8 (zb.natAbs / gg)) (IsI 8 (zb.natAbs % gg)) (IsV (.int .i64 0))) (v 4) w' := hd 4 (by kernel_rfl); obtain ⟨x0, x1, x2, z0, y0, y1, y2⟩ := d0; have ev0 := hf.val 4 89 _ z0 (by kernel_rfl) (by kernel_rfl) (by kernel_rfl); clear z0; clear hd hf; intro K hK; go_simp; exact hK.out _ _ (Ext.refl _) y1 (FreshIf.no rfl) }) ?_
    refine RgAll.cons (by { (with_reducible refine RgL.mk (by rfl) ?_); intro v a w' hE hd hf; have d0 : (IsT3 (IsI 8 (zb.natAbs / gg)) (IsI 8 (zb.natAbs % gg)) (IsV (.int .i64 0))) (v 4) w' := hd 4 (by kernel_rfl); obtain ⟨x0, x1, x2, z0, y0, y1, y2⟩ := d0; have ev0 := hf.val 4 89 _ z0 (by kernel_rfl) (by kernel_rfl) (by kernel_rfl); clear z0; clear hd hf; intro K hK; go_simp; exact hK.out _ _ (Ext.refl _) y2 (FreshIf.no rfl) }) ?_
    refine RgAll.cons (by { (with_reducible refine RgL.mk (by rfl) ?_); intro v a w' hE hd hf; skip; clear hd hf; intro K hK; go_simp; refine hK.out _ _ ((Ext.refl _).alloc _) ⟨_, rfl, hE.size, Bx.new _ _ _ _ _⟩ FreshIf.yes }) ?_
    refine RgAll.cons (by { (with_reducible refine RgL.mk (by rfl) ?_); intro v a w' hE hd hf; skip; clear hd hf; intro K hK; go_simp; refine hK.out _ _ ((Ext.refl _).alloc _) ⟨_, rfl, hE.size, Bx.new _ _ _ _ _⟩ FreshIf.yes }) ?_
    exact RgAll.nil
  intro v W17 e1 hΦ hne
  replace S := S.mono e1
  obtain ⟨s94, a94, n94, c94, v5, h94⟩ := (hΦ 5 (by decide) : IsI 8 (zb.natAbs / gg) (v 5) W17)
  obtain ⟨s95, a95, n95, c95, v6, h95⟩ := (hΦ 6 (by decide) : IsI 8 (zb.natAbs % gg) (v 6) W17)
  have v7 : v 7 = .int .i64 0 := hΦ 7 (by decide)
  obtain ⟨g17, v8, q18, b17⟩ := (hΦ 8 (by decide) : IsB W16 (v 8) W17)
  replace S := S.addN (Apart.old hl.out q18) (Nat.le_trans hw q18) b17
  clear b17
  obtain ⟨g18, v9, q20, b19⟩ := (hΦ 9 (by decide) : IsB W16 (v 9) W17)
  replace S := S.addN (Apart.cons (fun h => hne 8 9 (by decide) (by decide) (by decide) (by decide) (by decide) (by rw [v8, v9, h])) (Apart.old hl.out q20)) (Nat.le_trans hw q20) b19
  clear b19
  clear hne
  simp only [layL, Act.put, List.setIfInBounds_toArray, List.set_cons_zero, List.set_cons_succ, Nat.reduceAdd]
  rw [v5, v6, v7, v8, v9]
  clear v5 v6 v7 v8 v9
  clear hΦ
  clear hl hw
  clear e1
  obtain ⟨s8, a8, n8, c8, b8, _⟩ := S.at 1 (g17) (IsI 0 0) rfl; have F1 := b8.c0; have F2 := b8.c1; have F3 := b8.f0; have F4 := b8.f1
  refine wpAny_ready (rs := [10]) (by kernel_rfl) (by simp) (AllReady.cons rfl (fun K hK => ?_) AllReady.nil); go_simp; refine hK _ _ ?_; clear hK K
  clear F1 F2 F3 F4 b8
  obtain ⟨W18, hW, S2, G2, _⟩ := S.put 1 (g17) (IsI 0 0) (IsI 8 (zb.natAbs / gg)) rfl s94 a94 n94 c94 (IsI.gstb _ _) ⟨_, _, _, _, rfl, h94⟩
  rw [← hW]; clear hW S
  replace h95 := h95.gr G2
  have S : St w W18 [(g18, IsI 0 0), (g17, IsI 8 (zb.natAbs / gg)), (g15, IsI 8 (za % gg)), (g14, IsI 8 (za / gg)), (g13, IsI 17 vv), (g12, IsI 8 uu), (g11, IsI 8 gg), (g10, IsI 4 zc), (g9, IsI 8 zb), (g8, IsI 8 za), (w.heap.size + 1 + 1, IsR s3 x3), (w.heap.size + 1, IsR s2 x2), (w.heap.size, IsR s1 x1)] := S2; clear S2 G2
  clear h94
  obtain ⟨s8, a8, n8, c8, b8, _⟩ := S.at 0 (g18) (IsI 0 0) rfl; have F1 := b8.c0; have F2 := b8.c1; have F3 := b8.f0; have F4 := b8.f1
  refine wpAny_ready (rs := [11]) (by kernel_rfl) (by simp) (AllReady.cons rfl (fun K hK => ?_) AllReady.nil); go_simp; refine hK _ _ ?_; clear hK K
  clear F1 F2 F3 F4 b8
  obtain ⟨W19, hW, S2, G2, _⟩ := S.put 0 (g18) (IsI 0 0) (IsI 8 (zb.natAbs % gg)) rfl s95 a95 n95 c95 (IsI.gstb _ _) ⟨_, _, _, _, rfl, h95⟩
  rw [← hW]; clear hW S
  have S : St w W19 [(g18, IsI 8 (zb.natAbs % gg)), (g17, IsI 8 (zb.natAbs / gg)), (g15, IsI 8 (za % gg)), (g14, IsI 8 (za / gg)), (g13, IsI 17 vv), (g12, IsI 8 uu), (g11, IsI 8 gg), (g10, IsI 4 zc), (g9, IsI 8 zb), (g8, IsI 8 za), (w.heap.size + 1 + 1, IsR s3 x3), (w.heap.size + 1, IsR s2 x2), (w.heap.size, IsR s1 x1)] := S2; clear S2 G2
  clear h95
  refine wpAny_ready (rs := [12]) (by kernel_rfl) (by simp) (AllReady.cons rfl (fun K hK => ?_) AllReady.nil); go_simp; refine hK _ _ ?_; clear hK K
  refine wpAny_done (by kernel_rfl) (NoPanic.normal ?_) _
  go_upto_region 14 with (fail)
  refine wp_region_rgs 16 [some 97, some 98, some 99, some 100, some 101, some 102, some 103, some 104, some 105, some 106, some 107, some 108, some 109, some 110, some 111, some 112] [IsV (.int .i64 0), IsV (.bool false), IsV (.bool false), IsV (.int .i64 0), IsV (.bool false), IsV (.bool false), IsV (.bool false), IsV (.pointer (some ⟨g15, 1, none⟩)), IsMag 8 (za % gg), IsV (.int .i64 0), IsV (.pointer (some ⟨g18, 1, none⟩)), IsMag 8 (zb.natAbs % gg), IsV (.int .i64 0), IsV (.int .i64 0), IsV (.bool false), IsV (.bool false)] [] (by decide) (by kernel_rfl) (by kernel_rfl) (by kernel_rfl) ?_ ?_ ?_ ?_
  · repeat' (first | exact trivial | exact IsV.stb _ | exact IsI.stb _ _ | exact IsB.stb _ | exact IsR.stb _ _ | exact IsMag.stb _ _ | exact IsPos.stb | apply IsT3.stb | apply IsT2.stb | apply And.intro)
  · exact (fun _ h => by cases h)
  · refine RgAll.cons (by { (with_reducible refine RgL.mk (by rfl) ?_); intro v a w' hE hd hf; have ev0 := hf.lit 16 (.int .i64 0) (by kernel_rfl) (by kernel_rfl); clear hd hf; intro K hK; go_simp; exact hK.out _ _ (Ext.refl _) rfl (FreshIf.no rfl) }) ?_
    refine RgAll.cons (by { (with_reducible refine RgL.mk (by rfl) ?_); intro v a w' hE hd hf; have d0 : v 0 = .int .i64 0 := hd 0 (by kernel_rfl); have ev0 := hf.val 0 97 _ d0 (by kernel_rfl) (by kernel_rfl) (by kernel_rfl); clear d0; clear hd hf; intro K hK; go_simp; exact hK.out _ _ (Ext.refl _) rfl (FreshIf.no rfl) }) ?_
    refine RgAll.cons (by { (with_reducible refine RgL.mk (by rfl) ?_); intro v a w' hE hd hf; have d0 : v 1 = .bool false := hd 1 (by kernel_rfl); have ev0 := hf.val 1 98 _ d0 (by kernel_rfl) (by kernel_rfl) (by kernel_rfl); clear d0; clear hd hf; intro K hK; go_simp; exact hK.out _ _ (Ext.refl _) rfl (FreshIf.no rfl) }) ?_
    refine RgAll.cons (by { (with_reducible refine RgL.mkG 2 99 false (by rfl) (by kernel_rfl) (by kernel_rfl) (by kernel_rfl) (by kernel_rfl) (by kernel_rfl) ?_ ?_); (focus (intro _ _ h; exact h)); intro v a w' hE hd hf; have ev0 := hf.lit 19 (.int .i64 0) (by kernel_rfl) (by kernel_rfl); clear hd hf; intro K hK; go_simp; exact hK.out _ _ (Ext.refl _) rfl (FreshIf.no rfl) }) ?_
    refine RgAll.cons (by { (with_reducible refine RgL.mkG 2 99 false (by rfl) (by kernel_rfl) (by kernel_rfl) (by kernel_rfl) (by kernel_rfl) (by kernel_rfl) ?_ ?_); (focus (intro _ _ h; exact h)); intro v a w' hE hd hf; have d0 : v 3 = .int .i64 0 := hd 3 (by kernel_rfl); have ev0 := hf.val 3 100 _ d0 (by kernel_rfl) (by kernel_rfl) (by kernel_rfl); clear d0; clear hd hf; intro K hK; go_simp; exact hK.out _ _ (Ext.refl _) rfl (FreshIf.no rfl) }) ?_
    refine RgAll.cons (by { (with_reducible refine RgL.mk (by rfl) ?_); intro v a w' hE hd hf; have d0 : v 2 = .bool false := hd 2 (by kernel_rfl); have ev0 := hf.val 2 99 _ d0 (by kernel_rfl) (by kernel_rfl) (by kernel_rfl); clear d0; have d1 : v 4 = .bool false := hd 4 (by kernel_rfl); have ev1 := hf.val 4 101 _ d1 (by kernel_rfl) (by kernel_rfl) (by kernel_rfl); clear d1; clear hd hf; intro K hK; go_simp; exact hK.out _ _ (Ext.refl _) rfl (FreshIf.no rfl) }) ?_
    refine RgAll.cons (by { (with_reducible refine RgL.mk (by rfl) ?_); intro v a w' hE hd hf; have d0 : v 5 = .bool false := hd 5 (by kernel_rfl); have ev0 := hf.val 5 102 _ d0 (by kernel_rfl) (by kernel_rfl) (by kernel_rfl); clear d0; clear hd hf; intro K hK; go_simp; exact hK.out _ _ (Ext.refl _) rfl (FreshIf.no rfl) }) ?_
    refine RgAll.cons (by { (with_reducible refine RgL.mkG 6 103 false (by rfl) (by kernel_rfl) (by kernel_rfl) (by kernel_rfl) (by kernel_rfl) (by kernel_rfl) ?_ ?_); (focus (intro _ _ h; exact h)); intro v a w' hE hd hf; have ev0 := hf.lit 15 (.pointer (some ⟨g15, 0, none⟩)) (by kernel_rfl) (by kernel_rfl); clear hd hf; intro K hK; go_simp; exact hK.out _ _ (Ext.refl _) rfl (FreshIf.no rfl) }) ?_
    refine RgAll.cons (by { (with_reducible refine RgL.mkG 6 103 false (by rfl) (by kernel_rfl) (by kernel_rfl) (by kernel_rfl) (by kernel_rfl) (by kernel_rfl) ?_ ?_); (focus (intro _ _ h; exact h)); intro v a w' hE hd hf; have d0 : v 7 = .pointer (some ⟨g15, 1, none⟩) := hd 7 (by kernel_rfl); have ev0 := hf.val 7 104 _ d0 (by kernel_rfl) (by kernel_rfl) (by kernel_rfl); clear d0; obtain ⟨s8, a8, n8, c8, b8, h8⟩ := (S.mono hE).at 2 (g15) (IsI 8 (za % gg)) rfl; have L0 := b8.c0; have L1 := b8.c1; obtain ⟨s9, a9, n9, c9, k9, h9⟩ := h8; injection k9 with k9; simp only [Array.mk.injEq, List.cons.injEq, Value.bool.injEq, Value.slice.injEq, and_true] at k9; obtain ⟨rfl, rfl, rfl, rfl⟩ := k9; clear hd hf; intro K hK; go_simp; exact hK.out _ _ (Ext.refl _) ⟨_, _, _, _, rfl, h9⟩ (FreshIf.no rfl) }) ?_
    refine RgAll.cons (by { (with_reducible refine RgL.mkG 6 103 false (by rfl) (by kernel_rfl) (by kernel_rfl) (by kernel_rfl) (by kernel_rfl) (by kernel_rfl) ?_ ?_); (focus (intro _ _ h; exact h)); intro v a w' hE hd hf; have d0 : (IsMag 8 (za % gg)) (v 8) w' := hd 8 (by kernel_rfl); obtain ⟨s9, a9, n9, c9, z0, h9⟩ := d0; have ev0 := hf.val 8 105 _ z0 (by kernel_rfl) (by kernel_rfl) (by kernel_rfl); clear z0; obtain rfl : n9 = 0 := h9.zero_iff.1 (Hr.out); clear hd hf; intro K hK; go_simp; exact hK.out _ _ (Ext.refl _) rfl (FreshIf.no rfl) }) ?_
    refine RgAll.cons (by { (with_reducible refine RgL.mkG 6 103 false (by rfl) (by kernel_rfl) (by kernel_rfl) (by kernel_rfl) (by kernel_rfl) (by kernel_rfl) ?_ ?_); (focus (intro _ _ h; exact h)); intro v a w' hE hd hf; have ev0 := hf.lit 18 (.pointer (some ⟨g18, 0, none⟩)) (by kernel_rfl) (by kernel_rfl); clear hd hf; intro K hK; go_simp; exact hK.out _ _ (Ext.refl _) rfl (FreshIf.no rfl) }) ?_
    refine RgAll.cons (by { (with_reducible refine RgL.mkG 6 103 false (by rfl) (by kernel_rfl) (by kernel_rfl) (by kernel_rfl) (by kernel_rfl) (by kernel_rfl) ?_ ?_); (focus (intro _ _ h; exact h)); intro v a w' hE hd hf; have d0 : v 10 = .pointer (some ⟨g18, 1, none⟩) := hd 10 (by kernel_rfl); have ev0 := hf.val 10 107 _ d0 (by kernel_rfl) (by kernel_rfl) (by kernel_rfl); clear d0; obtain ⟨s8, a8, n8, c8, b8, h8⟩ := (S.mono hE).at 0 (g18) (IsI 8 (zb.natAbs % gg)) rfl; have L0 := b8.c0; have L1 := b8.c1; obtain ⟨s9, a9, n9, c9, k9, h9⟩ := h8; injection k9 with k9; simp only [Array.mk.injEq, List.cons.injEq, Value.bool.injEq, Value.slice.injEq, and_true] at k9; obtain ⟨rfl, rfl, rfl, rfl⟩ := k9; clear hd hf; intro K hK; go_simp; exact hK.out _ _ (Ext.refl _) ⟨_, _, _, _, rfl, h9⟩ (FreshIf.no rfl) }) ?_
    refine RgAll.cons (by { (with_reducible refine RgL.mkG 6 103 false (by rfl) (by kernel_rfl) (by kernel_rfl) (by kernel_rfl) (by kernel_rfl) (by kernel_rfl) ?_ ?_); (focus (intro _ _ h; exact h)); intro v a w' hE hd hf; have d0 : (IsMag 8 (zb.natAbs % gg)) (v 11) w' := hd 11 (by kernel_rfl); obtain ⟨s9, a9, n9, c9, z0, h9⟩ := d0; have ev0 := hf.val 11 108 _ z0 (by kernel_rfl) (by kernel_rfl) (by kernel_rfl); clear z0; obtain rfl : n9 = 0 := h9.zero_iff.1 (Hs.out); clear hd hf; intro K hK; go_simp; exact hK.out _ _ (Ext.refl _) rfl (FreshIf.no rfl) }) ?_
    refine RgAll.cons (by { (with_reducible refine RgL.mkG 6 103 false (by rfl) (by kernel_rfl) (by kernel_rfl) (by kernel_rfl) (by kernel_rfl) (by kernel_rfl) ?_ ?_); (focus (intro _ _ h; exact h)); intro v a w' hE hd hf; have d0 : v 9 = .int .i64 0 := hd 9 (by kernel_rfl); have ev0 := hf.val 9 106 _ d0 (by kernel_rfl) (by kernel_rfl) (by kernel_rfl); clear d0; have d1 : v 12 = .int .i64 0 := hd 12 (by kernel_rfl); have ev1 := hf.val 12 109 _ d1 (by kernel_rfl) (by kernel_rfl) (by kernel_rfl); clear d1; clear hd hf; intro K hK; go_simp; exact hK.out _ _ (Ext.refl _) rfl (FreshIf.no rfl) }) ?_
    refine RgAll.cons (by { (with_reducible refine RgL.mkG 6 103 false (by rfl) (by kernel_rfl) (by kernel_rfl) (by kernel_rfl) (by kernel_rfl) (by kernel_rfl) ?_ ?_); (focus (intro _ _ h; exact h)); intro v a w' hE hd hf; have d0 : v 13 = .int .i64 0 := hd 13 (by kernel_rfl); have ev0 := hf.val 13 110 _ d0 (by kernel_rfl) (by kernel_rfl) (by kernel_rfl); clear d0; clear hd hf; intro K hK; go_simp; exact hK.out _ _ (Ext.refl _) rfl (FreshIf.no rfl) }) ?_
    refine RgAll.cons (by { (with_reducible refine RgL.mk (by rfl) ?_); intro v a w' hE hd hf; have d0 : v 6 = .bool false := hd 6 (by kernel_rfl); have ev0 := hf.val 6 103 _ d0 (by kernel_rfl) (by kernel_rfl) (by kernel_rfl); clear d0; have d1 : v 14 = .bool false := hd 14 (by kernel_rfl); have ev1 := hf.val 14 111 _ d1 (by kernel_rfl) (by kernel_rfl) (by kernel_rfl); clear d1; clear hd hf; intro K hK; go_simp; exact hK.out _ _ (Ext.refl _) rfl (FreshIf.no rfl) }) ?_
    exact RgAll.nil
  intro v W20 e1 hΦ _
  replace S := S.mono e1
  have v15 : v 15 = .bool false := hΦ 15 (by decide)
  simp only [layL, Act.put, List.setIfInBounds_toArray, List.set_cons_zero, List.set_cons_succ, Nat.reduceAdd]
  rw [v15]
  clear v15
  clear hΦ
  clear e1
  refine wpList_nil ?_
  go_upto_region 16 with (fail)
  refine wp_region_rgs 15 [some 113, some 114, some 115, some 116, some 117, some 118, some 119, some 120, some 121, some 122, some 123, some 124, some 125, some 126, some 127] [IsV (.pointer (some ⟨g9, 1, none⟩)), IsMag 8 zb, IsPos, IsV (.bool true), IsV (.bool true), IsI 8 uu, IsV (.int .i64 su), IsV (.bool false), IsV (.bool false), IsI 8 uu, IsI 8 (zb.natAbs / gg), IsV (.int .i64 (-1)), IsV (.bool false), IsV (.bool false), IsV (.bool false)] [] (by decide) (by kernel_rfl) (by kernel_rfl) (by kernel_rfl) ?_ ?_ ?_ ?_
  · repeat' (first | exact trivial | exact IsV.stb _ | exact IsI.stb _ _ | exact IsB.stb _ | exact IsR.stb _ _ | exact IsMag.stb _ _ | exact IsPos.stb | apply IsT3.stb | apply IsT2.stb | apply And.intro)
  · exact (fun _ h => by cases h)
  · refine RgAll.cons (by { (with_reducible refine RgL.mk (by rfl) ?_); intro v a w' hE hd hf; have ev0 := hf.lit 9 (.pointer (some ⟨g9, 0, none⟩)) (by kernel_rfl) (by kernel_rfl); clear hd hf; intro K hK; go_simp; exact hK.out _ _ (Ext.refl _) rfl (FreshIf.no rfl) }) ?_
    refine RgAll.cons (by { (with_reducible refine RgL.mk (by rfl) ?_); intro v a w' hE hd hf; have d0 : v 0 = .pointer (some ⟨g9, 1, none⟩) := hd 0 (by kernel_rfl); have ev0 := hf.val 0 113 _ d0 (by kernel_rfl) (by kernel_rfl) (by kernel_rfl); clear d0; obtain ⟨s8, a8, n8, c8, b8, h8⟩ := (S.mono hE).at 8 (g9) (IsI 8 zb) rfl; have L0 := b8.c0; have L1 := b8.c1; obtain ⟨s9, a9, n9, c9, k9, h9⟩ := h8; injection k9 with k9; simp only [Array.mk.injEq, List.cons.injEq, Value.bool.injEq, Value.slice.injEq, and_true] at k9; obtain ⟨rfl, rfl, rfl, rfl⟩ := k9; clear hd hf; intro K hK; go_simp; exact hK.out _ _ (Ext.refl _) ⟨_, _, _, _, rfl, h9⟩ (FreshIf.no rfl) }) ?_
    refine RgAll.cons (by { (with_reducible refine RgL.mk (by rfl) ?_); intro v a w' hE hd hf; have d0 : (IsMag 8 zb) (v 1) w' := hd 1 (by kernel_rfl); obtain ⟨s9, a9, n9, c9, z0, h9⟩ := d0; have ev0 := hf.val 1 114 _ z0 (by kernel_rfl) (by kernel_rfl) (by kernel_rfl); clear z0; clear hd hf; intro K hK; go_simp; exact hK.out _ _ (Ext.refl _) ⟨n9, rfl, Nat.pos_of_ne_zero (fun h0 => (HZb.out) (h9.zero_iff.2 h0)), h9.len⟩ (FreshIf.no rfl) }) ?_
    refine RgAll.cons (by { (with_reducible refine RgL.mk (by rfl) ?_); intro v a w' hE hd hf; have d0 : IsPos (v 2) w' := hd 2 (by kernel_rfl); obtain ⟨n9, z0, p9, q9⟩ := d0; have ev0 := hf.val 2 115 _ z0 (by kernel_rfl) (by kernel_rfl) (by kernel_rfl); clear z0; have hb9 : ((n9 : Int) == 0) = false := (by rw [beq_eq_false_iff_ne]; omega); have hb8 : decide ((0 : Int) < (n9 : Int)) = true := (by simp; omega); have hb7 : decide (0 < n9) = true := (by simp; omega); have hb6 : (n9 == 0) = false := (by rw [beq_eq_false_iff_ne]; omega); clear hd hf; intro K hK; go_simp; exact hK.out _ _ (Ext.refl _) rfl (FreshIf.no rfl) }) ?_
    refine RgAll.cons (by { (with_reducible refine RgL.mk (by rfl) ?_); intro v a w' hE hd hf; have d0 : v 3 = .bool true := hd 3 (by kernel_rfl); have ev0 := hf.val 3 116 _ d0 (by kernel_rfl) (by kernel_rfl) (by kernel_rfl); clear d0; clear hd hf; intro K hK; go_simp; exact hK.out _ _ (Ext.refl _) rfl (FreshIf.no rfl) }) ?_
    refine RgAll.cons (by { (with_reducible refine RgL.mkG 4 117 true (by rfl) (by kernel_rfl) (by kernel_rfl) (by kernel_rfl) (by kernel_rfl) (by kernel_rfl) ?_ ?_); (focus (intro _ _ h; exact h)); intro v a w' hE hd hf; have ev0 := hf.lit 12 (.pointer (some ⟨g12, 0, none⟩)) (by kernel_rfl) (by kernel_rfl); obtain ⟨s8, a8, n8, c8, b8, h8⟩ := (S.mono hE).at 5 (g12) (IsI 8 uu) rfl; have L0 := b8.c0; have L1 := b8.c1; clear hd hf; intro K hK; go_simp; exact hK.out _ _ (Ext.refl _) h8 (FreshIf.no rfl) }) ?_
    refine RgAll.cons (by { (with_reducible refine RgL.mkG 4 117 true (by rfl) (by kernel_rfl) (by kernel_rfl) (by kernel_rfl) (by kernel_rfl) (by kernel_rfl) ?_ ?_); (focus (intro _ _ h; exact h)); intro v a w' hE hd hf; have d0 : (IsI 8 uu) (v 5) w' := hd 5 (by kernel_rfl); have ev0 := hf.val 5 118 _ rfl (by kernel_rfl) (by kernel_rfl) (by kernel_rfl); clear hd hf; intro K hK; go_simp; go_at_call 15; go_split_ands; (with_reducible refine Calls.mono (Calls.mono (Sign_f d0) fun _ _ h => h.int (Hsu.out.1)) ?_); rintro e w2 ⟨x, rfl, e2, hx⟩; exact hK.out _ _ e2 hx (FreshIf.no rfl) }) ?_
    refine RgAll.cons (by { (with_reducible refine RgL.mkG 4 117 true (by rfl) (by kernel_rfl) (by kernel_rfl) (by kernel_rfl) (by kernel_rfl) (by kernel_rfl) ?_ ?_); (focus (intro _ _ h; exact h)); intro v a w' hE hd hf; have d0 : v 6 = .int .i64 su := hd 6 (by kernel_rfl); have ev0 := hf.val 6 119 _ d0 (by kernel_rfl) (by kernel_rfl) (by kernel_rfl); clear d0; have hs9 := Hsu.out.2; clear hd hf; intro K hK; go_simp; exact hK.out _ _ (Ext.refl _) rfl (FreshIf.no rfl) }) ?_
    refine RgAll.cons (by { (with_reducible refine RgL.mkG 4 117 true (by rfl) (by kernel_rfl) (by kernel_rfl) (by kernel_rfl) (by kernel_rfl) (by kernel_rfl) ?_ ?_); (focus (intro _ _ h; exact h)); intro v a w' hE hd hf; have d0 : v 7 = .bool false := hd 7 (by kernel_rfl); have ev0 := hf.val 7 120 _ d0 (by kernel_rfl) (by kernel_rfl) (by kernel_rfl); clear d0; clear hd hf; intro K hK; go_simp; exact hK.out _ _ (Ext.refl _) rfl (FreshIf.no rfl) }) ?_
    refine RgAll.cons (by { (with_reducible refine RgL.mkG 8 121 false (by rfl) (by kernel_rfl) (by kernel_rfl) (by kernel_rfl) (by kernel_rfl) (by kernel_rfl) ?_ ?_); (focus (intro _ _ h; exact h)); intro v a w' hE hd hf; have ev0 := hf.lit 12 (.pointer (some ⟨g12, 0, none⟩)) (by kernel_rfl) (by kernel_rfl); obtain ⟨s8, a8, n8, c8, b8, h8⟩ := (S.mono hE).at 5 (g12) (IsI 8 uu) rfl; have L0 := b8.c0; have L1 := b8.c1; clear hd hf; intro K hK; go_simp; exact hK.out _ _ (Ext.refl _) h8 (FreshIf.no rfl) }) ?_
    refine RgAll.cons (by { (with_reducible refine RgL.mkG 8 121 false (by rfl) (by kernel_rfl) (by kernel_rfl) (by kernel_rfl) (by kernel_rfl) (by kernel_rfl) ?_ ?_); (focus (intro _ _ h; exact h)); intro v a w' hE hd hf; have ev0 := hf.lit 17 (.pointer (some ⟨g17, 0, none⟩)) (by kernel_rfl) (by kernel_rfl); obtain ⟨s8, a8, n8, c8, b8, h8⟩ := (S.mono hE).at 1 (g17) (IsI 8 (zb.natAbs / gg)) rfl; have L0 := b8.c0; have L1 := b8.c1; clear hd hf; intro K hK; go_simp; exact hK.out _ _ (Ext.refl _) h8 (FreshIf.no rfl) }) ?_
    refine RgAll.cons (by { (with_reducible refine RgL.mkG 8 121 false (by rfl) (by kernel_rfl) (by kernel_rfl) (by kernel_rfl) (by kernel_rfl) (by kernel_rfl) ?_ ?_); (focus (intro _ _ h; exact h)); intro v a w' hE hd hf; have d0 : (IsI 8 uu) (v 9) w' := hd 9 (by kernel_rfl); have ev0 := hf.val 9 122 _ rfl (by kernel_rfl) (by kernel_rfl) (by kernel_rfl); have d1 : (IsI 8 (zb.natAbs / gg)) (v 10) w' := hd 10 (by kernel_rfl); have ev1 := hf.val 10 123 _ rfl (by kernel_rfl) (by kernel_rfl) (by kernel_rfl); clear hd hf; intro K hK; go_simp; go_at_call 16; go_split_ands; (with_reducible refine Calls.mono (Calls.mono (Cmp_f d0 d1 (by decide) (by decide)) fun _ _ h => h.int (Hcmp.out)) ?_); rintro e w2 ⟨x, rfl, e2, hx⟩; exact hK.out _ _ e2 hx (FreshIf.no rfl) }) ?_
    refine RgAll.cons (by { (with_reducible refine RgL.mkG 8 121 false (by rfl) (by kernel_rfl) (by kernel_rfl) (by kernel_rfl) (by kernel_rfl) (by kernel_rfl) ?_ ?_); (focus (intro _ _ h; exact h)); intro v a w' hE hd hf; have d0 : v 11 = .int .i64 (-1) := hd 11 (by kernel_rfl); have ev0 := hf.val 11 124 _ d0 (by kernel_rfl) (by kernel_rfl) (by kernel_rfl); clear d0; clear hd hf; intro K hK; go_simp; exact hK.out _ _ (Ext.refl _) rfl (FreshIf.no rfl) }) ?_
    refine RgAll.cons (by { (with_reducible refine RgL.mkG 4 117 true (by rfl) (by kernel_rfl) (by kernel_rfl) (by kernel_rfl) (by kernel_rfl) (by kernel_rfl) ?_ ?_); (focus (intro _ _ h; exact h)); intro v a w' hE hd hf; have d0 : v 8 = .bool false := hd 8 (by kernel_rfl); have ev0 := hf.val 8 121 _ d0 (by kernel_rfl) (by kernel_rfl) (by kernel_rfl); clear d0; have d1 : v 12 = .bool false := hd 12 (by kernel_rfl); have ev1 := hf.val 12 125 _ d1 (by kernel_rfl) (by kernel_rfl) (by kernel_rfl); clear d1; clear hd hf; intro K hK; go_simp; exact hK.out _ _ (Ext.refl _) rfl (FreshIf.no rfl) }) ?_
    refine RgAll.cons (by { (with_reducible refine RgL.mk (by rfl) ?_); intro v a w' hE hd hf; have d0 : v 4 = .bool true := hd 4 (by kernel_rfl); have ev0 := hf.val 4 117 _ d0 (by kernel_rfl) (by kernel_rfl) (by kernel_rfl); clear d0; have d1 : v 13 = .bool false := hd 13 (by kernel_rfl); have ev1 := hf.val 13 126 _ d1 (by kernel_rfl) (by kernel_rfl) (by kernel_rfl); clear d1; clear hd hf; intro K hK; go_simp; exact hK.out _ _ (Ext.refl _) rfl (FreshIf.no rfl) }) ?_
    exact RgAll.nil
  intro v W21 e1 hΦ _
  replace S := S.mono e1
  have v14 : v 14 = .bool false := hΦ 14 (by decide)
  simp only [layL, Act.put, List.setIfInBounds_toArray, List.set_cons_zero, List.set_cons_succ, Nat.reduceAdd]
  rw [v14]
  clear v14
  clear hΦ
  clear e1
  refine wpList_nil ?_
  go_upto_region 18 with (fail)
  refine wp_region_rg 16 [some 128, some 129, some 130, some 131, some 132, some 133, some 134, some 135, some 136, some 137, some 138, some 139, some 140, some 141, some 142, some 6] [IsV (.bool true), IsV (.bool true), IsI 8 za, IsI 4 zc, IsI 12 (za * zc), IsI 8 zb, IsI 4 zc, IsI 12 (zb * zc), IsI 12 (Int.gcd (za * zc) (zb * zc)), IsI 8 gg, IsI 4 zc, IsI 4 zc.natAbs, IsI 12 (gg * zc.natAbs), IsV (.bool true), IsV (.bool true), IsV (.bool true)] [] 0 (by kernel_rfl) (by decide) (by kernel_rfl) (by kernel_rfl) (by kernel_rfl) (by kernel_rfl) (by kernel_rfl) ?_ ?_ ?_ ?_
  · repeat' (first | exact trivial | exact IsV.stb _ | exact IsI.stb _ _ | exact IsB.stb _ | exact IsR.stb _ _ | exact IsMag.stb _ _ | exact IsPos.stb | apply IsT3.stb | apply IsT2.stb | apply And.intro)
  · exact (fun _ h => by cases h)
  · refine RgAll.cons (by { (with_reducible refine RgL.mk (by rfl) ?_); intro v a w' hE hd hf; have ev0 := hf.lit 7 (.bool true) (by kernel_rfl) (by kernel_rfl); clear hd hf; intro K hK; go_simp; exact hK.out _ _ (Ext.refl _) rfl (FreshIf.no rfl) }) ?_
    refine RgAll.cons (by { (with_reducible refine RgL.mk (by rfl) ?_); intro v a w' hE hd hf; have d0 : v 0 = .bool true := hd 0 (by kernel_rfl); have ev0 := hf.val 0 128 _ d0 (by kernel_rfl) (by kernel_rfl) (by kernel_rfl); clear d0; clear hd hf; intro K hK; go_simp; exact hK.out _ _ (Ext.refl _) rfl (FreshIf.no rfl) }) ?_
    refine RgAll.cons (by { (with_reducible refine RgL.mkG 1 129 true (by rfl) (by kernel_rfl) (by kernel_rfl) (by kernel_rfl) (by kernel_rfl) (by kernel_rfl) ?_ ?_); (focus (intro _ _ h; exact h)); intro v a w' hE hd hf; have ev0 := hf.lit 8 (.pointer (some ⟨g8, 0, none⟩)) (by kernel_rfl) (by kernel_rfl); obtain ⟨s8, a8, n8, c8, b8, h8⟩ := (S.mono hE).at 9 (g8) (IsI 8 za) rfl; have L0 := b8.c0; have L1 := b8.c1; clear hd hf; intro K hK; go_simp; exact hK.out _ _ (Ext.refl _) h8 (FreshIf.no rfl) }) ?_
    refine RgAll.cons (by { (with_reducible refine RgL.mkG 1 129 true (by rfl) (by kernel_rfl) (by kernel_rfl) (by kernel_rfl) (by kernel_rfl) (by kernel_rfl) ?_ ?_); (focus (intro _ _ h; exact h)); intro v a w' hE hd hf; have ev0 := hf.lit 10 (.pointer (some ⟨g10, 0, none⟩)) (by kernel_rfl) (by kernel_rfl); obtain ⟨s8, a8, n8, c8, b8, h8⟩ := (S.mono hE).at 7 (g10) (IsI 4 zc) rfl; have L0 := b8.c0; have L1 := b8.c1; clear hd hf; intro K hK; go_simp; exact hK.out _ _ (Ext.refl _) h8 (FreshIf.no rfl) }) ?_
    refine RgAll.cons (by { (with_reducible refine RgL.mkG 1 129 true (by rfl) (by kernel_rfl) (by kernel_rfl) (by kernel_rfl) (by kernel_rfl) (by kernel_rfl) ?_ ?_); (focus (intro _ _ h; exact h)); intro v a w' hE hd hf; have d0 : (IsI 8 za) (v 2) w' := hd 2 (by kernel_rfl); have ev0 := hf.val 2 130 _ rfl (by kernel_rfl) (by kernel_rfl) (by kernel_rfl); have d1 : (IsI 4 zc) (v 3) w' := hd 3 (by kernel_rfl); have ev1 := hf.val 3 131 _ rfl (by kernel_rfl) (by kernel_rfl) (by kernel_rfl); clear hd hf; intro K hK; go_simp; go_at_call 13; go_split_ands; (with_reducible refine Calls.mono (Mul_f d0 d1 (by decide) (by decide)) ?_); rintro e w2 ⟨x, rfl, e2, hx⟩; exact hK.out _ _ e2 hx (FreshIf.no rfl) }) ?_
    refine RgAll.cons (by { (with_reducible refine RgL.mkG 1 129 true (by rfl) (by kernel_rfl) (by kernel_rfl) (by kernel_rfl) (by kernel_rfl) (by kernel_rfl) ?_ ?_); (focus (intro _ _ h; exact h)); intro v a w' hE hd hf; have ev0 := hf.lit 9 (.pointer (some ⟨g9, 0, none⟩)) (by kernel_rfl) (by kernel_rfl); obtain ⟨s8, a8, n8, c8, b8, h8⟩ := (S.mono hE).at 8 (g9) (IsI 8 zb) rfl; have L0 := b8.c0; have L1 := b8.c1; clear hd hf; intro K hK; go_simp; exact hK.out _ _ (Ext.refl _) h8 (FreshIf.no rfl) }) ?_
    refine RgAll.cons (by { (with_reducible refine RgL.mkG 1 129 true (by rfl) (by kernel_rfl) (by kernel_rfl) (by kernel_rfl) (by kernel_rfl) (by kernel_rfl) ?_ ?_); (focus (intro _ _ h; exact h)); intro v a w' hE hd hf; have ev0 := hf.lit 10 (.pointer (some ⟨g10, 0, none⟩)) (by kernel_rfl) (by kernel_rfl); obtain ⟨s8, a8, n8, c8, b8, h8⟩ := (S.mono hE).at 7 (g10) (IsI 4 zc) rfl; have L0 := b8.c0; have L1 := b8.c1; clear hd hf; intro K hK; go_simp; exact hK.out _ _ (Ext.refl _) h8 (FreshIf.no rfl) }) ?_
    refine RgAll.cons (by { (with_reducible refine RgL.mkG 1 129 true (by rfl) (by kernel_rfl) (by kernel_rfl) (by kernel_rfl) (by kernel_rfl) (by kernel_rfl) ?_ ?_); (focus (intro _ _ h; exact h)); intro v a w' hE hd hf; have d0 : (IsI 8 zb) (v 5) w' := hd 5 (by kernel_rfl); have ev0 := hf.val 5 133 _ rfl (by kernel_rfl) (by kernel_rfl) (by kernel_rfl); have d1 : (IsI 4 zc) (v 6) w' := hd 6 (by kernel_rfl); have ev1 := hf.val 6 134 _ rfl (by kernel_rfl) (by kernel_rfl) (by kernel_rfl); clear hd hf; intro K hK; go_simp; go_at_call 13; go_split_ands; (with_reducible refine Calls.mono (Mul_f d0 d1 (by decide) (by decide)) ?_); rintro e w2 ⟨x, rfl, e2, hx⟩; exact hK.out _ _ e2 hx (FreshIf.no rfl) }) ?_
    refine RgAll.cons (by { (with_reducible refine RgL.mkG 1 129 true (by rfl) (by kernel_rfl) (by kernel_rfl) (by kernel_rfl) (by kernel_rfl) (by kernel_rfl) ?_ ?_); (focus (intro _ _ h; exact h)); intro v a w' hE hd hf; have d0 : (IsI 12 (za * zc)) (v 4) w' := hd 4 (by kernel_rfl); have ev0 := hf.val 4 132 _ rfl (by kernel_rfl) (by kernel_rfl) (by kernel_rfl); have d1 : (IsI 12 (zb * zc)) (v 7) w' := hd 7 (by kernel_rfl); have ev1 := hf.val 7 135 _ rfl (by kernel_rfl) (by kernel_rfl) (by kernel_rfl); clear hd hf; intro K hK; go_simp; go_at_call 19; go_split_ands; (with_reducible refine Calls.mono (Gcd_f d0 d1 (by decide) (by decide)) ?_); rintro e w2 ⟨x, rfl, e2, hx⟩; exact hK.out _ _ e2 hx (FreshIf.no rfl) }) ?_
    refine RgAll.cons (by { (with_reducible refine RgL.mkG 1 129 true (by rfl) (by kernel_rfl) (by kernel_rfl) (by kernel_rfl) (by kernel_rfl) (by kernel_rfl) ?_ ?_); (focus (intro _ _ h; exact h)); intro v a w' hE hd hf; have ev0 := hf.lit 11 (.pointer (some ⟨g11, 0, none⟩)) (by kernel_rfl) (by kernel_rfl); obtain ⟨s8, a8, n8, c8, b8, h8⟩ := (S.mono hE).at 6 (g11) (IsI 8 gg) rfl; have L0 := b8.c0; have L1 := b8.c1; clear hd hf; intro K hK; go_simp; exact hK.out _ _ (Ext.refl _) h8 (FreshIf.no rfl) }) ?_
    refine RgAll.cons (by { (with_reducible refine RgL.mkG 1 129 true (by rfl) (by kernel_rfl) (by kernel_rfl) (by kernel_rfl) (by kernel_rfl) (by kernel_rfl) ?_ ?_); (focus (intro _ _ h; exact h)); intro v a w' hE hd hf; have ev0 := hf.lit 10 (.pointer (some ⟨g10, 0, none⟩)) (by kernel_rfl) (by kernel_rfl); obtain ⟨s8, a8, n8, c8, b8, h8⟩ := (S.mono hE).at 7 (g10) (IsI 4 zc) rfl; have L0 := b8.c0; have L1 := b8.c1; clear hd hf; intro K hK; go_simp; exact hK.out _ _ (Ext.refl _) h8 (FreshIf.no rfl) }) ?_
    refine RgAll.cons (by { (with_reducible refine RgL.mkG 1 129 true (by rfl) (by kernel_rfl) (by kernel_rfl) (by kernel_rfl) (by kernel_rfl) (by kernel_rfl) ?_ ?_); (focus (intro _ _ h; exact h)); intro v a w' hE hd hf; have d0 : (IsI 4 zc) (v 10) w' := hd 10 (by kernel_rfl); have ev0 := hf.val 10 138 _ rfl (by kernel_rfl) (by kernel_rfl) (by kernel_rfl); clear hd hf; intro K hK; go_simp; go_at_call 17; go_split_ands; (with_reducible refine Calls.mono (Abs_f d0) ?_); rintro e w2 ⟨x, rfl, e2, hx⟩; exact hK.out _ _ e2 hx (FreshIf.no rfl) }) ?_
    refine RgAll.cons (by { (with_reducible refine RgL.mkG 1 129 true (by rfl) (by kernel_rfl) (by kernel_rfl) (by kernel_rfl) (by kernel_rfl) (by kernel_rfl) ?_ ?_); (focus (intro _ _ h; exact h)); intro v a w' hE hd hf; have d0 : (IsI 8 gg) (v 9) w' := hd 9 (by kernel_rfl); have ev0 := hf.val 9 137 _ rfl (by kernel_rfl) (by kernel_rfl) (by kernel_rfl); have d1 : (IsI 4 zc.natAbs) (v 11) w' := hd 11 (by kernel_rfl); have ev1 := hf.val 11 139 _ rfl (by kernel_rfl) (by kernel_rfl) (by kernel_rfl); clear hd hf; intro K hK; go_simp; go_at_call 13; go_split_ands; (with_reducible refine Calls.mono (Mul_f d0 d1 (by decide) (by decide)) ?_); rintro e w2 ⟨x, rfl, e2, hx⟩; exact hK.out _ _ e2 hx (FreshIf.no rfl) }) ?_
    refine RgAll.cons (by { (with_reducible refine RgL.mkG 1 129 true (by rfl) (by kernel_rfl) (by kernel_rfl) (by kernel_rfl) (by kernel_rfl) (by kernel_rfl) ?_ ?_); (focus (intro _ _ h; exact h)); intro v a w' hE hd hf; have d0 : (IsI 12 (Int.gcd (za * zc) (zb * zc))) (v 8) w' := hd 8 (by kernel_rfl); have ev0 := hf.val 8 136 _ rfl (by kernel_rfl) (by kernel_rfl) (by kernel_rfl); have d1 : (IsI 12 (gg * zc.natAbs)) (v 12) w' := hd 12 (by kernel_rfl); have ev1 := hf.val 12 140 _ rfl (by kernel_rfl) (by kernel_rfl) (by kernel_rfl); clear hd hf; intro K hK; go_simp; go_at_call 14; go_split_ands; (with_reducible refine Calls.mono (Same_t d0 d1 (H9.out) (by decide)) ?_); rintro e w2 ⟨x, rfl, e2, hx⟩; exact hK.out _ _ e2 hx (FreshIf.no rfl) }) ?_
    refine RgAll.cons (by { (with_reducible refine RgL.mk (by rfl) ?_); intro v a w' hE hd hf; have d0 : v 1 = .bool true := hd 1 (by kernel_rfl); have ev0 := hf.val 1 129 _ d0 (by kernel_rfl) (by kernel_rfl) (by kernel_rfl); clear d0; have d1 : v 13 = .bool true := hd 13 (by kernel_rfl); have ev1 := hf.val 13 141 _ d1 (by kernel_rfl) (by kernel_rfl) (by kernel_rfl); clear d1; clear hd hf; intro K hK; go_simp; exact hK.out _ _ (Ext.refl _) rfl (FreshIf.no rfl) }) ?_
    refine RgAll.cons (by { (with_reducible refine RgL.mk (by rfl) ?_); intro v a w' hE hd hf; have d0 : v 14 = .bool true := hd 14 (by kernel_rfl); have ev0 := hf.val 14 142 _ d0 (by kernel_rfl) (by kernel_rfl) (by kernel_rfl); clear d0; clear hd hf; intro K hK; go_simp; exact hK.out _ _ (Ext.refl _) rfl (FreshIf.no rfl) }) ?_
    exact RgAll.nil
  intro v W22 e1 hΦ _
  replace S := S.mono e1
  have v15 : v 15 = .bool true := hΦ 15 (by decide)
  simp only [layL, Act.put, List.setIfInBounds_toArray, List.set_cons_zero, List.set_cons_succ, Nat.reduceAdd]
  rw [v15]
  clear v15
  clear hΦ
  clear e1
  refine wpAny_done (by kernel_rfl) ?_ _
  go_wp2_with fail
  exact bodyPost_ret (v := .bool true) (by simp [results, Tryd.results4, go_sem]) rfl (⟨_, rfl, S.ext, rfl⟩)

set_option maxRecDepth 100000 in
set_option maxHeartbeats 8000000 in
theorem Common_B (w : World) (s1 s2 s3 : Bool) (a1 a2 a3 : Option Addr) (n1 n2 n3 c1 c2 c3 : Nat) (x1 x2 x3 : List Nat) (h1 : Wd w a1 n1 c1 x1) (h2 : Wd w a2 n2 c2 x2) (h3 : Wd w a3 n3 c3 x3) (ht : Tab w) (za zb zc : Int) (ha : rawZ s1 x1 8 = za) (hb : rawZ s2 x2 8 = zb) (hc : rawZ s3 x3 4 = zc) (hz : zb = 0) (hz2 : za ≠ 0) :
    Calls Tryd.prog 4 #[.agg #[.bool s1, .slice a1 n1 c1], .agg #[.bool s2, .slice a2 n2 c2], .agg #[.bool s3, .slice a3 n3 c3]] w (Ret w (IsV (.bool true))) := by
  have Ha := hid ha
  have Hb := hid hb
  have Hc := hid hc
  have HZb := hid hz
  have hgp : 0 < ((za.natAbs : Nat) : Int) := by omega
  have HG := hid (show ((Int.gcd za zb : Nat) : Int) = ((za.natAbs : Nat) : Int) by rw [hz, Int.gcd_zero])
  have HG2 := hid (show ((Int.gcd zb za : Nat) : Int) = ((za.natAbs : Nat) : Int) by rw [hz, Int.gcd_comm, Int.gcd_zero])
  have H1 := hid (show za.sign * za + 0 * zb = ((za.natAbs : Nat) : Int) by rw [hz, Int.mul_zero, Int.add_zero, Int.mul_comm]; exact Int.mul_sign_self za)
  have Hg0 := hid (show ((za.natAbs : Nat) : Int) ≠ 0 by omega)
  have HSg := hid (Int.sign_eq_one_of_pos hgp)
  have Hr := hid (show za % ((za.natAbs : Nat) : Int) = 0 from Int.emod_eq_zero_of_dvd (Int.natAbs_dvd.2 (Int.dvd_refl za)))
  have Hs := hid (show ((zb.natAbs : Nat) : Int) % ((za.natAbs : Nat) : Int) = 0 by rw [hz]; simp)
  have H9 := hid (show ((Int.gcd (za * zc) (zb * zc) : Nat) : Int) = ((za.natAbs : Nat) : Int) * ((zc.natAbs : Nat) : Int) by rw [hz, Int.zero_mul, Int.gcd_zero, Int.natAbs_mul, Int.natCast_mul])
  clear ha hb hc hz hz2 hgp
  obtain ⟨W, hW, S⟩ : ∃ W, W = ((w.alloc (.cells #[.bool s1, .slice a1 n1 c1] 24)).alloc (.cells #[.bool s2, .slice a2 n2 c2] 24)).alloc (.cells #[.bool s3, .slice a3 n3 c3] 24) ∧ St w W [(w.heap.size + 1 + 1, IsR s3 x3), (w.heap.size + 1, IsR s2 x2), (w.heap.size, IsR s1 x1)] := ⟨_, rfl, ((((St.start w).new' (w.heap.size) (by simp) s1 a1 n1 c1 24 (IsR s1 x1) (IsR.gstb _ _) ⟨_, _, _, rfl, h1⟩).new' (w.heap.size + 1) (by simp) s2 a2 n2 c2 24 (IsR s2 x2) (IsR.gstb _ _) ⟨_, _, _, rfl, h2.ext ((Ext.refl _).alloc _)⟩).new' (w.heap.size + 1 + 1) (by simp) s3 a3 n3 c3 24 (IsR s3 x3) (IsR.gstb _ _) ⟨_, _, _, rfl, h3.ext (((Ext.refl _).alloc _).alloc _)⟩)⟩
  clear h1 h2 h3
  go_enter Tryd.func4, Tryd.ntmps4
  go_upto_region 1 with (fail)
  rw [← hW]
  clear hW
  refine wp_region_rgs 2 [some 20, some 7] [IsV (.bool true), IsV (.bool true)] [] (by decide) (by kernel_rfl) (by kernel_rfl) (by kernel_rfl) ?_ ?_ ?_ ?_
  · repeat' (first | exact trivial | exact IsV.stb _ | exact IsI.stb _ _ | exact IsB.stb _ | exact IsR.stb _ _ | exact IsMag.stb _ _ | exact IsPos.stb | apply IsT3.stb | apply IsT2.stb | apply And.intro)
  · exact (fun _ h => by cases h)
  · refine RgAll.cons (by { (with_reducible refine RgL.mk (by rfl) ?_); intro v a w' hE hd hf; skip; clear hd hf; intro K hK; go_simp; go_at_call 9; go_split_ands; (with_reducible refine Calls.mono (examples_f _ (ht.ext (S.ext.trans hE))) ?_); rintro e w2 ⟨x, rfl, e2, hx⟩; exact hK.out _ _ e2 hx (FreshIf.no rfl) }) ?_
    refine RgAll.cons (by { (with_reducible refine RgL.mk (by rfl) ?_); intro v a w' hE hd hf; have d0 : v 0 = .bool true := hd 0 (by kernel_rfl); have ev0 := hf.val 0 20 _ d0 (by kernel_rfl) (by kernel_rfl) (by kernel_rfl); clear d0; clear hd hf; intro K hK; go_simp; exact hK.out _ _ (Ext.refl _) rfl (FreshIf.no rfl) }) ?_
    exact RgAll.nil
  intro v W1 e1 hΦ _
  replace S := S.mono e1
  have v1 : v 1 = .bool true := hΦ 1 (by decide)
  simp only [layL, Act.put, List.setIfInBounds_toArray, List.set_cons_zero, List.set_cons_succ, Nat.reduceAdd]
  rw [v1]
  clear v1
  clear hΦ
  clear e1
  refine wpList_nil ?_
  go_upto_region 4 with (fail)
  have hl := hid S.lt; have hw := S.ext.size
  refine wp_region_rgs 3 [some 23, some 24, some 8] [IsR s1 x1, IsI 8 za, IsB W1] [2] (by decide) (by kernel_rfl) (by kernel_rfl) (by kernel_rfl) ?_ ?_ ?_ ?_
  · repeat' (first | exact trivial | exact IsV.stb _ | exact IsI.stb _ _ | exact IsB.stb _ | exact IsR.stb _ _ | exact IsMag.stb _ _ | exact IsPos.stb | apply IsT3.stb | apply IsT2.stb | apply And.intro)
  · intro i hi; simp only [List.mem_cons, List.not_mem_nil, or_false] at hi; subst hi; exact IsB.box _
  · refine RgAll.cons (by { (with_reducible refine RgL.mk (by rfl) ?_); intro v a w' hE hd hf; have ev0 := hf.lit 3 (.pointer (some ⟨w.heap.size, 0, none⟩)) (by kernel_rfl) (by kernel_rfl); obtain ⟨s8, a8, n8, c8, b8, h8⟩ := (S.mono hE).at 2 (w.heap.size) (IsR s1 x1) rfl; have L0 := b8.c0; have L1 := b8.c1; clear hd hf; intro K hK; go_simp; exact hK.out _ _ (Ext.refl _) h8 (FreshIf.no rfl) }) ?_
    refine RgAll.cons (by { (with_reducible refine RgL.mk (by rfl) ?_); intro v a w' hE hd hf; have d0 : (IsR s1 x1) (v 0) w' := hd 0 (by kernel_rfl); have ev0 := hf.val 0 23 _ rfl (by kernel_rfl) (by kernel_rfl) (by kernel_rfl); clear hd hf; intro K hK; go_simp; go_at_call 10; go_split_ands; (with_reducible refine Calls.mono (Calls.mono (Made_f d0 (by decide)) fun _ _ h => h.eqz Ha.out) ?_); rintro e w2 ⟨x, rfl, e2, hx⟩; exact hK.out _ _ e2 hx (FreshIf.no rfl) }) ?_
    refine RgAll.cons (by { (with_reducible refine RgL.mk (by rfl) ?_); intro v a w' hE hd hf; skip; clear hd hf; intro K hK; go_simp; refine hK.out _ _ ((Ext.refl _).alloc _) ⟨_, rfl, hE.size, Bx.new _ _ _ _ _⟩ FreshIf.yes }) ?_
    exact RgAll.nil
  intro v W2 e1 hΦ _
  replace S := S.mono e1
  obtain ⟨s24, a24, n24, c24, v1, h24⟩ := (hΦ 1 (by decide) : IsI 8 za (v 1) W2)
  obtain ⟨g8, v2, q2, b1⟩ := (hΦ 2 (by decide) : IsB W1 (v 2) W2)
  replace S := S.addN (Apart.old hl.out q2) (Nat.le_trans hw q2) b1
  clear b1
  simp only [layL, Act.put, List.setIfInBounds_toArray, List.set_cons_zero, List.set_cons_succ, Nat.reduceAdd]
  rw [v1, v2]
  clear v1 v2
  clear hΦ
  clear hl hw
  clear e1
  obtain ⟨s8, a8, n8, c8, b8, _⟩ := S.at 0 (g8) (IsI 0 0) rfl; have F1 := b8.c0; have F2 := b8.c1; have F3 := b8.f0; have F4 := b8.f1
  refine wpList_step fun K hK => ?_; go_simp; refine hK _ _ ?_; clear hK K
  clear F1 F2 F3 F4 b8
  obtain ⟨W3, hW, S2, G2, _⟩ := S.put 0 (g8) (IsI 0 0) (IsI 8 za) rfl s24 a24 n24 c24 (IsI.gstb _ _) ⟨_, _, _, _, rfl, h24⟩
  rw [← hW]; clear hW S
  have S : St w W3 [(g8, IsI 8 za), (w.heap.size + 1 + 1, IsR s3 x3), (w.heap.size + 1, IsR s2 x2), (w.heap.size, IsR s1 x1)] := S2; clear S2 G2
  clear h24
  refine wpList_nil ?_
  go_upto_region 5 with (fail)
  have hl := hid S.lt; have hw := S.ext.size
  refine wp_region_rgs 3 [some 25, some 26, some 9] [IsR s2 x2, IsI 8 zb, IsB W3] [2] (by decide) (by kernel_rfl) (by kernel_rfl) (by kernel_rfl) ?_ ?_ ?_ ?_
  · repeat' (first | exact trivial | exact IsV.stb _ | exact IsI.stb _ _ | exact IsB.stb _ | exact IsR.stb _ _ | exact IsMag.stb _ _ | exact IsPos.stb | apply IsT3.stb | apply IsT2.stb | apply And.intro)
  · intro i hi; simp only [List.mem_cons, List.not_mem_nil, or_false] at hi; subst hi; exact IsB.box _
  · refine RgAll.cons (by { (with_reducible refine RgL.mk (by rfl) ?_); intro v a w' hE hd hf; have ev0 := hf.lit 4 (.pointer (some ⟨w.heap.size + 1, 0, none⟩)) (by kernel_rfl) (by kernel_rfl); obtain ⟨s8, a8, n8, c8, b8, h8⟩ := (S.mono hE).at 2 (w.heap.size + 1) (IsR s2 x2) rfl; have L0 := b8.c0; have L1 := b8.c1; clear hd hf; intro K hK; go_simp; exact hK.out _ _ (Ext.refl _) h8 (FreshIf.no rfl) }) ?_
    refine RgAll.cons (by { (with_reducible refine RgL.mk (by rfl) ?_); intro v a w' hE hd hf; have d0 : (IsR s2 x2) (v 0) w' := hd 0 (by kernel_rfl); have ev0 := hf.val 0 25 _ rfl (by kernel_rfl) (by kernel_rfl) (by kernel_rfl); clear hd hf; intro K hK; go_simp; go_at_call 10; go_split_ands; (with_reducible refine Calls.mono (Calls.mono (Made_f d0 (by decide)) fun _ _ h => h.eqz Hb.out) ?_); rintro e w2 ⟨x, rfl, e2, hx⟩; exact hK.out _ _ e2 hx (FreshIf.no rfl) }) ?_
    refine RgAll.cons (by { (with_reducible refine RgL.mk (by rfl) ?_); intro v a w' hE hd hf; skip; clear hd hf; intro K hK; go_simp; refine hK.out _ _ ((Ext.refl _).alloc _) ⟨_, rfl, hE.size, Bx.new _ _ _ _ _⟩ FreshIf.yes }) ?_
    exact RgAll.nil
  intro v W4 e1 hΦ _
  replace S := S.mono e1
  obtain ⟨s26, a26, n26, c26, v1, h26⟩ := (hΦ 1 (by decide) : IsI 8 zb (v 1) W4)
  obtain ⟨g9, v2, q4, b3⟩ := (hΦ 2 (by decide) : IsB W3 (v 2) W4)
  replace S := S.addN (Apart.old hl.out q4) (Nat.le_trans hw q4) b3
  clear b3
  simp only [layL, Act.put, List.setIfInBounds_toArray, List.set_cons_zero, List.set_cons_succ, Nat.reduceAdd]
  rw [v1, v2]
  clear v1 v2
  clear hΦ
  clear hl hw
  clear e1
  obtain ⟨s8, a8, n8, c8, b8, _⟩ := S.at 0 (g9) (IsI 0 0) rfl; have F1 := b8.c0; have F2 := b8.c1; have F3 := b8.f0; have F4 := b8.f1
  refine wpList_step fun K hK => ?_; go_simp; refine hK _ _ ?_; clear hK K
  clear F1 F2 F3 F4 b8
  obtain ⟨W5, hW, S2, G2, _⟩ := S.put 0 (g9) (IsI 0 0) (IsI 8 zb) rfl s26 a26 n26 c26 (IsI.gstb _ _) ⟨_, _, _, _, rfl, h26⟩
  rw [← hW]; clear hW S
  have S : St w W5 [(g9, IsI 8 zb), (g8, IsI 8 za), (w.heap.size + 1 + 1, IsR s3 x3), (w.heap.size + 1, IsR s2 x2), (w.heap.size, IsR s1 x1)] := S2; clear S2 G2
  clear h26
  refine wpList_nil ?_
  go_upto_region 6 with (fail)
  have hl := hid S.lt; have hw := S.ext.size
  refine wp_region_rgs 3 [some 27, some 28, some 10] [IsR s3 x3, IsI 4 zc, IsB W5] [2] (by decide) (by kernel_rfl) (by kernel_rfl) (by kernel_rfl) ?_ ?_ ?_ ?_
  · repeat' (first | exact trivial | exact IsV.stb _ | exact IsI.stb _ _ | exact IsB.stb _ | exact IsR.stb _ _ | exact IsMag.stb _ _ | exact IsPos.stb | apply IsT3.stb | apply IsT2.stb | apply And.intro)
  · intro i hi; simp only [List.mem_cons, List.not_mem_nil, or_false] at hi; subst hi; exact IsB.box _
  · refine RgAll.cons (by { (with_reducible refine RgL.mk (by rfl) ?_); intro v a w' hE hd hf; have ev0 := hf.lit 5 (.pointer (some ⟨w.heap.size + 1 + 1, 0, none⟩)) (by kernel_rfl) (by kernel_rfl); obtain ⟨s8, a8, n8, c8, b8, h8⟩ := (S.mono hE).at 2 (w.heap.size + 1 + 1) (IsR s3 x3) rfl; have L0 := b8.c0; have L1 := b8.c1; clear hd hf; intro K hK; go_simp; exact hK.out _ _ (Ext.refl _) h8 (FreshIf.no rfl) }) ?_
    refine RgAll.cons (by { (with_reducible refine RgL.mk (by rfl) ?_); intro v a w' hE hd hf; have d0 : (IsR s3 x3) (v 0) w' := hd 0 (by kernel_rfl); have ev0 := hf.val 0 27 _ rfl (by kernel_rfl) (by kernel_rfl) (by kernel_rfl); clear hd hf; intro K hK; go_simp; go_at_call 10; go_split_ands; (with_reducible refine Calls.mono (Calls.mono (Made_f d0 (by decide)) fun _ _ h => h.eqz Hc.out) ?_); rintro e w2 ⟨x, rfl, e2, hx⟩; exact hK.out _ _ e2 hx (FreshIf.no rfl) }) ?_
    refine RgAll.cons (by { (with_reducible refine RgL.mk (by rfl) ?_); intro v a w' hE hd hf; skip; clear hd hf; intro K hK; go_simp; refine hK.out _ _ ((Ext.refl _).alloc _) ⟨_, rfl, hE.size, Bx.new _ _ _ _ _⟩ FreshIf.yes }) ?_
    exact RgAll.nil
  intro v W6 e1 hΦ _
  replace S := S.mono e1
  obtain ⟨s28, a28, n28, c28, v1, h28⟩ := (hΦ 1 (by decide) : IsI 4 zc (v 1) W6)
  obtain ⟨g10, v2, q6, b5⟩ := (hΦ 2 (by decide) : IsB W5 (v 2) W6)
  replace S := S.addN (Apart.old hl.out q6) (Nat.le_trans hw q6) b5
  clear b5
  simp only [layL, Act.put, List.setIfInBounds_toArray, List.set_cons_zero, List.set_cons_succ, Nat.reduceAdd]
  rw [v1, v2]
  clear v1 v2
  clear hΦ
  clear hl hw
  clear e1
  obtain ⟨s8, a8, n8, c8, b8, _⟩ := S.at 0 (g10) (IsI 0 0) rfl; have F1 := b8.c0; have F2 := b8.c1; have F3 := b8.f0; have F4 := b8.f1
  refine wpList_step fun K hK => ?_; go_simp; refine hK _ _ ?_; clear hK K
  clear F1 F2 F3 F4 b8
  obtain ⟨W7, hW, S2, G2, _⟩ := S.put 0 (g10) (IsI 0 0) (IsI 4 zc) rfl s28 a28 n28 c28 (IsI.gstb _ _) ⟨_, _, _, _, rfl, h28⟩
  rw [← hW]; clear hW S
  have S : St w W7 [(g10, IsI 4 zc), (g9, IsI 8 zb), (g8, IsI 8 za), (w.heap.size + 1 + 1, IsR s3 x3), (w.heap.size + 1, IsR s2 x2), (w.heap.size, IsR s1 x1)] := S2; clear S2 G2
  clear h28
  refine wpList_nil ?_
  go_upto_region 7 with (fail)
  have hl := hid S.lt; have hw := S.ext.size
  refine wp_region_rgs 10 [some 30, some 31, some 32, some 29, some 33, some 34, some 35, some 11, some 12, some 13] [IsI 8 za, IsI 8 zb, IsT3 (IsI 8 (((za.natAbs : Nat) : Int))) (IsI 2 za.sign) (IsI 0 0), IsT3 (IsI 8 (((za.natAbs : Nat) : Int))) (IsI 2 za.sign) (IsI 0 0), IsI 8 (((za.natAbs : Nat) : Int)), IsI 2 za.sign, IsI 0 0, IsB W7, IsB W7, IsB W7] [7, 8, 9] (by decide) (by kernel_rfl) (by kernel_rfl) (by kernel_rfl) ?_ ?_ ?_ ?_
  · repeat' (first | exact trivial | exact IsV.stb _ | exact IsI.stb _ _ | exact IsB.stb _ | exact IsR.stb _ _ | exact IsMag.stb _ _ | exact IsPos.stb | apply IsT3.stb | apply IsT2.stb | apply And.intro)
  · intro i hi; simp only [List.mem_cons, List.not_mem_nil, or_false] at hi; rcases hi with rfl | rfl | rfl <;> exact IsB.box _
  · refine RgAll.cons (by { (with_reducible refine RgL.mk (by rfl) ?_); intro v a w' hE hd hf; have ev0 := hf.lit 8 (.pointer (some ⟨g8, 0, none⟩)) (by kernel_rfl) (by kernel_rfl); obtain ⟨s8, a8, n8, c8, b8, h8⟩ := (S.mono hE).at 2 (g8) (IsI 8 za) rfl; have L0 := b8.c0; have L1 := b8.c1; clear hd hf; intro K hK; go_simp; exact hK.out _ _ (Ext.refl _) h8 (FreshIf.no rfl) }) ?_
    refine RgAll.cons (by { (with_reducible refine RgL.mk (by rfl) ?_); intro v a w' hE hd hf; have ev0 := hf.lit 9 (.pointer (some ⟨g9, 0, none⟩)) (by kernel_rfl) (by kernel_rfl); obtain ⟨s8, a8, n8, c8, b8, h8⟩ := (S.mono hE).at 1 (g9) (IsI 8 zb) rfl; have L0 := b8.c0; have L1 := b8.c1; clear hd hf; intro K hK; go_simp; exact hK.out _ _ (Ext.refl _) h8 (FreshIf.no rfl) }) ?_
    refine RgAll.cons (by { (with_reducible refine RgL.mk (by rfl) ?_); intro v a w' hE hd hf; have d0 : (IsI 8 za) (v 0) w' := hd 0 (by kernel_rfl); have ev0 := hf.val 0 30 _ rfl (by kernel_rfl) (by kernel_rfl) (by kernel_rfl); have d1 : (IsI 8 zb) (v 1) w' := hd 1 (by kernel_rfl); have ev1 := hf.val 1 31 _ rfl (by kernel_rfl) (by kernel_rfl) (by kernel_rfl); clear hd hf; intro K hK; go_simp; go_at_call 18; go_split_ands; (with_reducible refine Calls.mono (Bezout0_f d0 (by have hz := HZb.out; rw [hz] at d1; exact d1)) ?_); rintro e w2 ⟨x, rfl, e2, hx⟩; exact hK.out _ _ e2 hx (FreshIf.no rfl) }) ?_
    refine RgAll.cons (by { (with_reducible refine RgL.mk (by rfl) ?_); intro v a w' hE hd hf; have d0 : (IsT3 (IsI 8 (((za.natAbs : Nat) : Int))) (IsI 2 za.sign) (IsI 0 0)) (v 2) w' := hd 2 (by kernel_rfl); have ev0 := hf.val 2 32 _ rfl (by kernel_rfl) (by kernel_rfl) (by kernel_rfl); clear hd hf; intro K hK; go_simp; exact hK.out _ _ (Ext.refl _) d0 (FreshIf.no rfl) }) ?_
    refine RgAll.cons (by { (with_reducible refine RgL.mk (by rfl) ?_); intro v a w' hE hd hf; have d0 : (IsT3 (IsI 8 (((za.natAbs : Nat) : Int))) (IsI 2 za.sign) (IsI 0 0)) (v 3) w' := hd 3 (by kernel_rfl); obtain ⟨x0, x1, x2, z0, y0, y1, y2⟩ := d0; have ev0 := hf.val 3 29 _ z0 (by kernel_rfl) (by kernel_rfl) (by kernel_rfl); clear z0; clear hd hf; intro K hK; go_simp; exact hK.out _ _ (Ext.refl _) y0 (FreshIf.no rfl) }) ?_
    refine RgAll.cons (by { (with_reducible refine RgL.mk (by rfl) ?_); intro v a w' hE hd hf; have d0 : (IsT3 (IsI 8 (((za.natAbs : Nat) : Int))) (IsI 2 za.sign) (IsI 0 0)) (v 3) w' := hd 3 (by kernel_rfl); obtain ⟨x0, x1, x2, z0, y0, y1, y2⟩ := d0; have ev0 := hf.val 3 29 _ z0 (by kernel_rfl) (by kernel_rfl) (by kernel_rfl); clear z0; clear hd hf; intro K hK; go_simp; exact hK.out _ _ (Ext.refl _) y1 (FreshIf.no rfl) }) ?_
    refine RgAll.cons (by { (with_reducible refine RgL.mk (by rfl) ?_); intro v a w' hE hd hf; have d0 : (IsT3 (IsI 8 (((za.natAbs : Nat) : Int))) (IsI 2 za.sign) (IsI 0 0)) (v 3) w' := hd 3 (by kernel_rfl); obtain ⟨x0, x1, x2, z0, y0, y1, y2⟩ := d0; have ev0 := hf.val 3 29 _ z0 (by kernel_rfl) (by kernel_rfl) (by kernel_rfl); clear z0; clear hd hf; intro K hK; go_simp; exact hK.out _ _ (Ext.refl _) y2 (FreshIf.no rfl) }) ?_
    refine RgAll.cons (by { (with_reducible refine RgL.mk (by rfl) ?_); intro v a w' hE hd hf; skip; clear hd hf; intro K hK; go_simp; refine hK.out _ _ ((Ext.refl _).alloc _) ⟨_, rfl, hE.size, Bx.new _ _ _ _ _⟩ FreshIf.yes }) ?_
    refine RgAll.cons (by { (with_reducible refine RgL.mk (by rfl) ?_); intro v a w' hE hd hf; skip; clear hd hf; intro K hK; go_simp; refine hK.out _ _ ((Ext.refl _).alloc _) ⟨_, rfl, hE.size, Bx.new _ _ _ _ _⟩ FreshIf.yes }) ?_
    refine RgAll.cons (by { (with_reducible refine RgL.mk (by rfl) ?_); intro v a w' hE hd hf; skip; clear hd hf; intro K hK; go_simp; refine hK.out _ _ ((Ext.refl _).alloc _) ⟨_, rfl, hE.size, Bx.new _ _ _ _ _⟩ FreshIf.yes }) ?_
    exact RgAll.nil
  intro v W8 e1 hΦ hne
  replace S := S.mono e1
  obtain ⟨s33, a33, n33, c33, v4, h33⟩ := (hΦ 4 (by decide) : IsI 8 (((za.natAbs : Nat) : Int)) (v 4) W8)
  obtain ⟨s34, a34, n34, c34, v5, h34⟩ := (hΦ 5 (by decide) : IsI 2 za.sign (v 5) W8)
  obtain ⟨s35, a35, n35, c35, v6, h35⟩ := (hΦ 6 (by decide) : IsI 0 0 (v 6) W8)
  obtain ⟨g11, v7, q8, b7⟩ := (hΦ 7 (by decide) : IsB W7 (v 7) W8)
  replace S := S.addN (Apart.old hl.out q8) (Nat.le_trans hw q8) b7
  clear b7
  obtain ⟨g12, v8, q10, b9⟩ := (hΦ 8 (by decide) : IsB W7 (v 8) W8)
  replace S := S.addN (Apart.cons (fun h => hne 7 8 (by decide) (by decide) (by decide) (by decide) (by decide) (by rw [v7, v8, h])) (Apart.old hl.out q10)) (Nat.le_trans hw q10) b9
  clear b9
  obtain ⟨g13, v9, q12, b11⟩ := (hΦ 9 (by decide) : IsB W7 (v 9) W8)
  replace S := S.addN (Apart.cons (fun h => hne 8 9 (by decide) (by decide) (by decide) (by decide) (by decide) (by rw [v8, v9, h])) (Apart.cons (fun h => hne 7 9 (by decide) (by decide) (by decide) (by decide) (by decide) (by rw [v7, v9, h])) (Apart.old hl.out q12))) (Nat.le_trans hw q12) b11
  clear b11
  clear hne
  simp only [layL, Act.put, List.setIfInBounds_toArray, List.set_cons_zero, List.set_cons_succ, Nat.reduceAdd]
  rw [v4, v5, v6, v7, v8, v9]
  clear v4 v5 v6 v7 v8 v9
  clear hΦ
  clear hl hw
  clear e1
  obtain ⟨s8, a8, n8, c8, b8, _⟩ := S.at 2 (g11) (IsI 0 0) rfl; have F1 := b8.c0; have F2 := b8.c1; have F3 := b8.f0; have F4 := b8.f1
  refine wpList_step fun K hK => ?_; go_simp; refine hK _ _ ?_; clear hK K
  clear F1 F2 F3 F4 b8
  obtain ⟨W9, hW, S2, G2, _⟩ := S.put 2 (g11) (IsI 0 0) (IsI 8 (((za.natAbs : Nat) : Int))) rfl s33 a33 n33 c33 (IsI.gstb _ _) ⟨_, _, _, _, rfl, h33⟩
  rw [← hW]; clear hW S
  replace h34 := h34.gr G2
  replace h35 := h35.gr G2
  have S : St w W9 [(g13, IsI 0 0), (g12, IsI 0 0), (g11, IsI 8 (((za.natAbs : Nat) : Int))), (g10, IsI 4 zc), (g9, IsI 8 zb), (g8, IsI 8 za), (w.heap.size + 1 + 1, IsR s3 x3), (w.heap.size + 1, IsR s2 x2), (w.heap.size, IsR s1 x1)] := S2; clear S2 G2
  clear h33
  obtain ⟨s8, a8, n8, c8, b8, _⟩ := S.at 1 (g12) (IsI 0 0) rfl; have F1 := b8.c0; have F2 := b8.c1; have F3 := b8.f0; have F4 := b8.f1
  refine wpList_step fun K hK => ?_; go_simp; refine hK _ _ ?_; clear hK K
  clear F1 F2 F3 F4 b8
  obtain ⟨W10, hW, S2, G2, _⟩ := S.put 1 (g12) (IsI 0 0) (IsI 2 za.sign) rfl s34 a34 n34 c34 (IsI.gstb _ _) ⟨_, _, _, _, rfl, h34⟩
  rw [← hW]; clear hW S
  replace h35 := h35.gr G2
  have S : St w W10 [(g13, IsI 0 0), (g12, IsI 2 za.sign), (g11, IsI 8 (((za.natAbs : Nat) : Int))), (g10, IsI 4 zc), (g9, IsI 8 zb), (g8, IsI 8 za), (w.heap.size + 1 + 1, IsR s3 x3), (w.heap.size + 1, IsR s2 x2), (w.heap.size, IsR s1 x1)] := S2; clear S2 G2
  clear h34
  obtain ⟨s8, a8, n8, c8, b8, _⟩ := S.at 0 (g13) (IsI 0 0) rfl; have F1 := b8.c0; have F2 := b8.c1; have F3 := b8.f0; have F4 := b8.f1
  refine wpList_step fun K hK => ?_; go_simp; refine hK _ _ ?_; clear hK K
  clear F1 F2 F3 F4 b8
  obtain ⟨W11, hW, S2, G2, _⟩ := S.put 0 (g13) (IsI 0 0) (IsI 0 0) rfl s35 a35 n35 c35 (IsI.gstb _ _) ⟨_, _, _, _, rfl, h35⟩
  rw [← hW]; clear hW S
  have S : St w W11 [(g13, IsI 0 0), (g12, IsI 2 za.sign), (g11, IsI 8 (((za.natAbs : Nat) : Int))), (g10, IsI 4 zc), (g9, IsI 8 zb), (g8, IsI 8 za), (w.heap.size + 1 + 1, IsR s3 x3), (w.heap.size + 1, IsR s2 x2), (w.heap.size, IsR s1 x1)] := S2; clear S2 G2
  clear h35
  refine wpList_nil ?_
  go_upto_region 8 with (fail)
  refine wp_region_rg 31 [some 36, some 37, some 38, some 39, some 40, some 41, some 42, some 43, some 44, some 45, some 46, some 47, some 48, some 49, some 50, some 51, some 52, some 53, some 54, some 55, some 56, some 57, some 58, some 59, some 60, some 61, some 62, some 63, some 64, some 65, some 66] [IsI 2 za.sign, IsI 8 za, IsI 10 (za.sign * za), IsI 0 0, IsI 8 zb, IsI 8 (0 * zb), IsI 11 ((za.sign * za) + (0 * zb)), IsI 8 (((za.natAbs : Nat) : Int)), IsV (.bool true), IsV (.bool false), IsV (.bool false), IsI 8 (((za.natAbs : Nat) : Int)), IsI 8 za, IsI 8 zb, IsI 8 (((za.natAbs : Nat) : Int)), IsV (.bool true), IsV (.bool false), IsV (.bool false), IsV (.bool false), IsI 8 zb, IsI 8 za, IsI 8 (((za.natAbs : Nat) : Int)), IsI 8 (((za.natAbs : Nat) : Int)), IsV (.bool true), IsV (.bool false), IsV (.bool false), IsV (.bool false), IsI 8 (((za.natAbs : Nat) : Int)), IsV (.int .i64 1), IsV (.bool false), IsV (.bool false)] [] 0 (by kernel_rfl) (by decide) (by kernel_rfl) (by kernel_rfl) (by kernel_rfl) (by kernel_rfl) (by kernel_rfl) ?_ ?_ ?_ ?_
  · repeat' (first | exact trivial | exact IsV.stb _ | exact IsI.stb _ _ | exact IsB.stb _ | exact IsR.stb _ _ | exact IsMag.stb _ _ | exact IsPos.stb | apply IsT3.stb | apply IsT2.stb | apply And.intro)
  · exact (fun _ h => by cases h)
  · refine RgAll.cons (by { (with_reducible refine RgL.mk (by rfl) ?_); intro v a w' hE hd hf; have ev0 := hf.lit 12 (.pointer (some ⟨g12, 0, none⟩)) (by kernel_rfl) (by kernel_rfl); obtain ⟨s8, a8, n8, c8, b8, h8⟩ := (S.mono hE).at 1 (g12) (IsI 2 za.sign) rfl; have L0 := b8.c0; have L1 := b8.c1; clear hd hf; intro K hK; go_simp; exact hK.out _ _ (Ext.refl _) h8 (FreshIf.no rfl) }) ?_
    refine RgAll.cons (by { (with_reducible refine RgL.mk (by rfl) ?_); intro v a w' hE hd hf; have ev0 := hf.lit 8 (.pointer (some ⟨g8, 0, none⟩)) (by kernel_rfl) (by kernel_rfl); obtain ⟨s8, a8, n8, c8, b8, h8⟩ := (S.mono hE).at 5 (g8) (IsI 8 za) rfl; have L0 := b8.c0; have L1 := b8.c1; clear hd hf; intro K hK; go_simp; exact hK.out _ _ (Ext.refl _) h8 (FreshIf.no rfl) }) ?_
    refine RgAll.cons (by { (with_reducible refine RgL.mk (by rfl) ?_); intro v a w' hE hd hf; have d0 : (IsI 2 za.sign) (v 0) w' := hd 0 (by kernel_rfl); have ev0 := hf.val 0 36 _ rfl (by kernel_rfl) (by kernel_rfl) (by kernel_rfl); have d1 : (IsI 8 za) (v 1) w' := hd 1 (by kernel_rfl); have ev1 := hf.val 1 37 _ rfl (by kernel_rfl) (by kernel_rfl) (by kernel_rfl); clear hd hf; intro K hK; go_simp; go_at_call 13; go_split_ands; (with_reducible refine Calls.mono (Mul_f d0 d1 (by decide) (by decide)) ?_); rintro e w2 ⟨x, rfl, e2, hx⟩; exact hK.out _ _ e2 hx (FreshIf.no rfl) }) ?_
    refine RgAll.cons (by { (with_reducible refine RgL.mk (by rfl) ?_); intro v a w' hE hd hf; have ev0 := hf.lit 13 (.pointer (some ⟨g13, 0, none⟩)) (by kernel_rfl) (by kernel_rfl); obtain ⟨s8, a8, n8, c8, b8, h8⟩ := (S.mono hE).at 0 (g13) (IsI 0 0) rfl; have L0 := b8.c0; have L1 := b8.c1; clear hd hf; intro K hK; go_simp; exact hK.out _ _ (Ext.refl _) h8 (FreshIf.no rfl) }) ?_
    refine RgAll.cons (by { (with_reducible refine RgL.mk (by rfl) ?_); intro v a w' hE hd hf; have ev0 := hf.lit 9 (.pointer (some ⟨g9, 0, none⟩)) (by kernel_rfl) (by kernel_rfl); obtain ⟨s8, a8, n8, c8, b8, h8⟩ := (S.mono hE).at 4 (g9) (IsI 8 zb) rfl; have L0 := b8.c0; have L1 := b8.c1; clear hd hf; intro K hK; go_simp; exact hK.out _ _ (Ext.refl _) h8 (FreshIf.no rfl) }) ?_
    refine RgAll.cons (by { (with_reducible refine RgL.mk (by rfl) ?_); intro v a w' hE hd hf; have d0 : (IsI 0 0) (v 3) w' := hd 3 (by kernel_rfl); have ev0 := hf.val 3 39 _ rfl (by kernel_rfl) (by kernel_rfl) (by kernel_rfl); have d1 : (IsI 8 zb) (v 4) w' := hd 4 (by kernel_rfl); have ev1 := hf.val 4 40 _ rfl (by kernel_rfl) (by kernel_rfl) (by kernel_rfl); clear hd hf; intro K hK; go_simp; go_at_call 13; go_split_ands; (with_reducible refine Calls.mono (Mul_f d0 d1 (by decide) (by decide)) ?_); rintro e w2 ⟨x, rfl, e2, hx⟩; exact hK.out _ _ e2 hx (FreshIf.no rfl) }) ?_
    refine RgAll.cons (by { (with_reducible refine RgL.mk (by rfl) ?_); intro v a w' hE hd hf; have d0 : (IsI 10 (za.sign * za)) (v 2) w' := hd 2 (by kernel_rfl); have ev0 := hf.val 2 38 _ rfl (by kernel_rfl) (by kernel_rfl) (by kernel_rfl); have d1 : (IsI 8 (0 * zb)) (v 5) w' := hd 5 (by kernel_rfl); have ev1 := hf.val 5 41 _ rfl (by kernel_rfl) (by kernel_rfl) (by kernel_rfl); clear hd hf; intro K hK; go_simp; go_at_call 12; go_split_ands; (with_reducible refine Calls.mono (Add_f d0 d1 (by decide) (by decide)) ?_); rintro e w2 ⟨x, rfl, e2, hx⟩; exact hK.out _ _ e2 hx (FreshIf.no rfl) }) ?_
    refine RgAll.cons (by { (with_reducible refine RgL.mk (by rfl) ?_); intro v a w' hE hd hf; have ev0 := hf.lit 11 (.pointer (some ⟨g11, 0, none⟩)) (by kernel_rfl) (by kernel_rfl); obtain ⟨s8, a8, n8, c8, b8, h8⟩ := (S.mono hE).at 2 (g11) (IsI 8 (((za.natAbs : Nat) : Int))) rfl; have L0 := b8.c0; have L1 := b8.c1; clear hd hf; intro K hK; go_simp; exact hK.out _ _ (Ext.refl _) h8 (FreshIf.no rfl) }) ?_
    refine RgAll.cons (by { (with_reducible refine RgL.mk (by rfl) ?_); intro v a w' hE hd hf; have d0 : (IsI 11 ((za.sign * za) + (0 * zb))) (v 6) w' := hd 6 (by kernel_rfl); have ev0 := hf.val 6 42 _ rfl (by kernel_rfl) (by kernel_rfl) (by kernel_rfl); have d1 : (IsI 8 (((za.natAbs : Nat) : Int))) (v 7) w' := hd 7 (by kernel_rfl); have ev1 := hf.val 7 43 _ rfl (by kernel_rfl) (by kernel_rfl) (by kernel_rfl); clear hd hf; intro K hK; go_simp; go_at_call 14; go_split_ands; (with_reducible refine Calls.mono (Same_t d0 d1 (H1.out) (by decide)) ?_); rintro e w2 ⟨x, rfl, e2, hx⟩; exact hK.out _ _ e2 hx (FreshIf.no rfl) }) ?_
    refine RgAll.cons (by { (with_reducible refine RgL.mk (by rfl) ?_); intro v a w' hE hd hf; have d0 : v 8 = .bool true := hd 8 (by kernel_rfl); have ev0 := hf.val 8 44 _ d0 (by kernel_rfl) (by kernel_rfl) (by kernel_rfl); clear d0; clear hd hf; intro K hK; go_simp; exact hK.out _ _ (Ext.refl _) rfl (FreshIf.no rfl) }) ?_
    refine RgAll.cons (by { (with_reducible refine RgL.mk (by rfl) ?_); intro v a w' hE hd hf; have d0 : v 9 = .bool false := hd 9 (by kernel_rfl); have ev0 := hf.val 9 45 _ d0 (by kernel_rfl) (by kernel_rfl) (by kernel_rfl); clear d0; clear hd hf; intro K hK; go_simp; exact hK.out _ _ (Ext.refl _) rfl (FreshIf.no rfl) }) ?_
    refine RgAll.cons (by { (with_reducible refine RgL.mkG 10 46 false (by rfl) (by kernel_rfl) (by kernel_rfl) (by kernel_rfl) (by kernel_rfl) (by kernel_rfl) ?_ ?_); (focus (intro _ _ h; exact h)); intro v a w' hE hd hf; have ev0 := hf.lit 11 (.pointer (some ⟨g11, 0, none⟩)) (by kernel_rfl) (by kernel_rfl); obtain ⟨s8, a8, n8, c8, b8, h8⟩ := (S.mono hE).at 2 (g11) (IsI 8 (((za.natAbs : Nat) : Int))) rfl; have L0 := b8.c0; have L1 := b8.c1; clear hd hf; intro K hK; go_simp; exact hK.out _ _ (Ext.refl _) h8 (FreshIf.no rfl) }) ?_
    refine RgAll.cons (by { (with_reducible refine RgL.mkG 10 46 false (by rfl) (by kernel_rfl) (by kernel_rfl) (by kernel_rfl) (by kernel_rfl) (by kernel_rfl) ?_ ?_); (focus (intro _ _ h; exact h)); intro v a w' hE hd hf; have ev0 := hf.lit 8 (.pointer (some ⟨g8, 0, none⟩)) (by kernel_rfl) (by kernel_rfl); obtain ⟨s8, a8, n8, c8, b8, h8⟩ := (S.mono hE).at 5 (g8) (IsI 8 za) rfl; have L0 := b8.c0; have L1 := b8.c1; clear hd hf; intro K hK; go_simp; exact hK.out _ _ (Ext.refl _) h8 (FreshIf.no rfl) }) ?_
    refine RgAll.cons (by { (with_reducible refine RgL.mkG 10 46 false (by rfl) (by kernel_rfl) (by kernel_rfl) (by kernel_rfl) (by kernel_rfl) (by kernel_rfl) ?_ ?_); (focus (intro _ _ h; exact h)); intro v a w' hE hd hf; have ev0 := hf.lit 9 (.pointer (some ⟨g9, 0, none⟩)) (by kernel_rfl) (by kernel_rfl); obtain ⟨s8, a8, n8, c8, b8, h8⟩ := (S.mono hE).at 4 (g9) (IsI 8 zb) rfl; have L0 := b8.c0; have L1 := b8.c1; clear hd hf; intro K hK; go_simp; exact hK.out _ _ (Ext.refl _) h8 (FreshIf.no rfl) }) ?_
    refine RgAll.cons (by { (with_reducible refine RgL.mkG 10 46 false (by rfl) (by kernel_rfl) (by kernel_rfl) (by kernel_rfl) (by kernel_rfl) (by kernel_rfl) ?_ ?_); (focus (intro _ _ h; exact h)); intro v a w' hE hd hf; have d0 : (IsI 8 za) (v 12) w' := hd 12 (by kernel_rfl); have ev0 := hf.val 12 48 _ rfl (by kernel_rfl) (by kernel_rfl) (by kernel_rfl); have d1 : (IsI 8 zb) (v 13) w' := hd 13 (by kernel_rfl); have ev1 := hf.val 13 49 _ rfl (by kernel_rfl) (by kernel_rfl) (by kernel_rfl); clear hd hf; intro K hK; go_simp; go_at_call 19; go_split_ands; (with_reducible refine Calls.mono (Calls.mono (Gcd_f d0 d1 (by decide) (by decide)) fun _ _ h => h.eqz (HG.out)) ?_); rintro e w2 ⟨x, rfl, e2, hx⟩; exact hK.out _ _ e2 hx (FreshIf.no rfl) }) ?_
    refine RgAll.cons (by { (with_reducible refine RgL.mkG 10 46 false (by rfl) (by kernel_rfl) (by kernel_rfl) (by kernel_rfl) (by kernel_rfl) (by kernel_rfl) ?_ ?_); (focus (intro _ _ h; exact h)); intro v a w' hE hd hf; have d0 : (IsI 8 (((za.natAbs : Nat) : Int))) (v 11) w' := hd 11 (by kernel_rfl); have ev0 := hf.val 11 47 _ rfl (by kernel_rfl) (by kernel_rfl) (by kernel_rfl); have d1 : (IsI 8 (((za.natAbs : Nat) : Int))) (v 14) w' := hd 14 (by kernel_rfl); have ev1 := hf.val 14 50 _ rfl (by kernel_rfl) (by kernel_rfl) (by kernel_rfl); clear hd hf; intro K hK; go_simp; go_at_call 14; go_split_ands; (with_reducible refine Calls.mono (Same_t d0 d1 (rfl) (by decide)) ?_); rintro e w2 ⟨x, rfl, e2, hx⟩; exact hK.out _ _ e2 hx (FreshIf.no rfl) }) ?_
    refine RgAll.cons (by { (with_reducible refine RgL.mkG 10 46 false (by rfl) (by kernel_rfl) (by kernel_rfl) (by kernel_rfl) (by kernel_rfl) (by kernel_rfl) ?_ ?_); (focus (intro _ _ h; exact h)); intro v a w' hE hd hf; have d0 : v 15 = .bool true := hd 15 (by kernel_rfl); have ev0 := hf.val 15 51 _ d0 (by kernel_rfl) (by kernel_rfl) (by kernel_rfl); clear d0; clear hd hf; intro K hK; go_simp; exact hK.out _ _ (Ext.refl _) rfl (FreshIf.no rfl) }) ?_
    refine RgAll.cons (by { (with_reducible refine RgL.mk (by rfl) ?_); intro v a w' hE hd hf; have d0 : v 10 = .bool false := hd 10 (by kernel_rfl); have ev0 := hf.val 10 46 _ d0 (by kernel_rfl) (by kernel_rfl) (by kernel_rfl); clear d0; have d1 : v 16 = .bool false := hd 16 (by kernel_rfl); have ev1 := hf.val 16 52 _ d1 (by kernel_rfl) (by kernel_rfl) (by kernel_rfl); clear d1; clear hd hf; intro K hK; go_simp; exact hK.out _ _ (Ext.refl _) rfl (FreshIf.no rfl) }) ?_
    refine RgAll.cons (by { (with_reducible refine RgL.mk (by rfl) ?_); intro v a w' hE hd hf; have d0 : v 17 = .bool false := hd 17 (by kernel_rfl); have ev0 := hf.val 17 53 _ d0 (by kernel_rfl) (by kernel_rfl) (by kernel_rfl); clear d0; clear hd hf; intro K hK; go_simp; exact hK.out _ _ (Ext.refl _) rfl (FreshIf.no rfl) }) ?_
    refine RgAll.cons (by { (with_reducible refine RgL.mkG 18 54 false (by rfl) (by kernel_rfl) (by kernel_rfl) (by kernel_rfl) (by kernel_rfl) (by kernel_rfl) ?_ ?_); (focus (intro _ _ h; exact h)); intro v a w' hE hd hf; have ev0 := hf.lit 9 (.pointer (some ⟨g9, 0, none⟩)) (by kernel_rfl) (by kernel_rfl); obtain ⟨s8, a8, n8, c8, b8, h8⟩ := (S.mono hE).at 4 (g9) (IsI 8 zb) rfl; have L0 := b8.c0; have L1 := b8.c1; clear hd hf; intro K hK; go_simp; exact hK.out _ _ (Ext.refl _) h8 (FreshIf.no rfl) }) ?_
    refine RgAll.cons (by { (with_reducible refine RgL.mkG 18 54 false (by rfl) (by kernel_rfl) (by kernel_rfl) (by kernel_rfl) (by kernel_rfl) (by kernel_rfl) ?_ ?_); (focus (intro _ _ h; exact h)); intro v a w' hE hd hf; have ev0 := hf.lit 8 (.pointer (some ⟨g8, 0, none⟩)) (by kernel_rfl) (by kernel_rfl); obtain ⟨s8, a8, n8, c8, b8, h8⟩ := (S.mono hE).at 5 (g8) (IsI 8 za) rfl; have L0 := b8.c0; have L1 := b8.c1; clear hd hf; intro K hK; go_simp; exact hK.out _ _ (Ext.refl _) h8 (FreshIf.no rfl) }) ?_
    refine RgAll.cons (by { (with_reducible refine RgL.mkG 18 54 false (by rfl) (by kernel_rfl) (by kernel_rfl) (by kernel_rfl) (by kernel_rfl) (by kernel_rfl) ?_ ?_); (focus (intro _ _ h; exact h)); intro v a w' hE hd hf; have d0 : (IsI 8 zb) (v 19) w' := hd 19 (by kernel_rfl); have ev0 := hf.val 19 55 _ rfl (by kernel_rfl) (by kernel_rfl) (by kernel_rfl); have d1 : (IsI 8 za) (v 20) w' := hd 20 (by kernel_rfl); have ev1 := hf.val 20 56 _ rfl (by kernel_rfl) (by kernel_rfl) (by kernel_rfl); clear hd hf; intro K hK; go_simp; go_at_call 19; go_split_ands; (with_reducible refine Calls.mono (Calls.mono (Gcd_f d0 d1 (by decide) (by decide)) fun _ _ h => h.eqz (HG2.out)) ?_); rintro e w2 ⟨x, rfl, e2, hx⟩; exact hK.out _ _ e2 hx (FreshIf.no rfl) }) ?_
    refine RgAll.cons (by { (with_reducible refine RgL.mkG 18 54 false (by rfl) (by kernel_rfl) (by kernel_rfl) (by kernel_rfl) (by kernel_rfl) (by kernel_rfl) ?_ ?_); (focus (intro _ _ h; exact h)); intro v a w' hE hd hf; have ev0 := hf.lit 11 (.pointer (some ⟨g11, 0, none⟩)) (by kernel_rfl) (by kernel_rfl); obtain ⟨s8, a8, n8, c8, b8, h8⟩ := (S.mono hE).at 2 (g11) (IsI 8 (((za.natAbs : Nat) : Int))) rfl; have L0 := b8.c0; have L1 := b8.c1; clear hd hf; intro K hK; go_simp; exact hK.out _ _ (Ext.refl _) h8 (FreshIf.no rfl) }) ?_
    refine RgAll.cons (by { (with_reducible refine RgL.mkG 18 54 false (by rfl) (by kernel_rfl) (by kernel_rfl) (by kernel_rfl) (by kernel_rfl) (by kernel_rfl) ?_ ?_); (focus (intro _ _ h; exact h)); intro v a w' hE hd hf; have d0 : (IsI 8 (((za.natAbs : Nat) : Int))) (v 21) w' := hd 21 (by kernel_rfl); have ev0 := hf.val 21 57 _ rfl (by kernel_rfl) (by kernel_rfl) (by kernel_rfl); have d1 : (IsI 8 (((za.natAbs : Nat) : Int))) (v 22) w' := hd 22 (by kernel_rfl); have ev1 := hf.val 22 58 _ rfl (by kernel_rfl) (by kernel_rfl) (by kernel_rfl); clear hd hf; intro K hK; go_simp; go_at_call 14; go_split_ands; (with_reducible refine Calls.mono (Same_t d0 d1 (rfl) (by decide)) ?_); rintro e w2 ⟨x, rfl, e2, hx⟩; exact hK.out _ _ e2 hx (FreshIf.no rfl) }) ?_
    refine RgAll.cons (by { (with_reducible refine RgL.mkG 18 54 false (by rfl) (by kernel_rfl) (by kernel_rfl) (by kernel_rfl) (by kernel_rfl) (by kernel_rfl) ?_ ?_); (focus (intro _ _ h; exact h)); intro v a w' hE hd hf; have d0 : v 23 = .bool true := hd 23 (by kernel_rfl); have ev0 := hf.val 23 59 _ d0 (by kernel_rfl) (by kernel_rfl) (by kernel_rfl); clear d0; clear hd hf; intro K hK; go_simp; exact hK.out _ _ (Ext.refl _) rfl (FreshIf.no rfl) }) ?_
    refine RgAll.cons (by { (with_reducible refine RgL.mk (by rfl) ?_); intro v a w' hE hd hf; have d0 : v 18 = .bool false := hd 18 (by kernel_rfl); have ev0 := hf.val 18 54 _ d0 (by kernel_rfl) (by kernel_rfl) (by kernel_rfl); clear d0; have d1 : v 24 = .bool false := hd 24 (by kernel_rfl); have ev1 := hf.val 24 60 _ d1 (by kernel_rfl) (by kernel_rfl) (by kernel_rfl); clear d1; clear hd hf; intro K hK; go_simp; exact hK.out _ _ (Ext.refl _) rfl (FreshIf.no rfl) }) ?_
    refine RgAll.cons (by { (with_reducible refine RgL.mk (by rfl) ?_); intro v a w' hE hd hf; have d0 : v 25 = .bool false := hd 25 (by kernel_rfl); have ev0 := hf.val 25 61 _ d0 (by kernel_rfl) (by kernel_rfl) (by kernel_rfl); clear d0; clear hd hf; intro K hK; go_simp; exact hK.out _ _ (Ext.refl _) rfl (FreshIf.no rfl) }) ?_
    refine RgAll.cons (by { (with_reducible refine RgL.mkG 26 62 false (by rfl) (by kernel_rfl) (by kernel_rfl) (by kernel_rfl) (by kernel_rfl) (by kernel_rfl) ?_ ?_); (focus (intro _ _ h; exact h)); intro v a w' hE hd hf; have ev0 := hf.lit 11 (.pointer (some ⟨g11, 0, none⟩)) (by kernel_rfl) (by kernel_rfl); obtain ⟨s8, a8, n8, c8, b8, h8⟩ := (S.mono hE).at 2 (g11) (IsI 8 (((za.natAbs : Nat) : Int))) rfl; have L0 := b8.c0; have L1 := b8.c1; clear hd hf; intro K hK; go_simp; exact hK.out _ _ (Ext.refl _) h8 (FreshIf.no rfl) }) ?_
    refine RgAll.cons (by { (with_reducible refine RgL.mkG 26 62 false (by rfl) (by kernel_rfl) (by kernel_rfl) (by kernel_rfl) (by kernel_rfl) (by kernel_rfl) ?_ ?_); (focus (intro _ _ h; exact h)); intro v a w' hE hd hf; have d0 : (IsI 8 (((za.natAbs : Nat) : Int))) (v 27) w' := hd 27 (by kernel_rfl); have ev0 := hf.val 27 63 _ rfl (by kernel_rfl) (by kernel_rfl) (by kernel_rfl); clear hd hf; intro K hK; go_simp; go_at_call 15; go_split_ands; (with_reducible refine Calls.mono (Calls.mono (Sign_f d0) fun _ _ h => h.int (HSg.out)) ?_); rintro e w2 ⟨x, rfl, e2, hx⟩; exact hK.out _ _ e2 hx (FreshIf.no rfl) }) ?_
    refine RgAll.cons (by { (with_reducible refine RgL.mkG 26 62 false (by rfl) (by kernel_rfl) (by kernel_rfl) (by kernel_rfl) (by kernel_rfl) (by kernel_rfl) ?_ ?_); (focus (intro _ _ h; exact h)); intro v a w' hE hd hf; have d0 : v 28 = .int .i64 1 := hd 28 (by kernel_rfl); have ev0 := hf.val 28 64 _ d0 (by kernel_rfl) (by kernel_rfl) (by kernel_rfl); clear d0; clear hd hf; intro K hK; go_simp; exact hK.out _ _ (Ext.refl _) rfl (FreshIf.no rfl) }) ?_
    refine RgAll.cons (by { (with_reducible refine RgL.mk (by rfl) ?_); intro v a w' hE hd hf; have d0 : v 26 = .bool false := hd 26 (by kernel_rfl); have ev0 := hf.val 26 62 _ d0 (by kernel_rfl) (by kernel_rfl) (by kernel_rfl); clear d0; have d1 : v 29 = .bool false := hd 29 (by kernel_rfl); have ev1 := hf.val 29 65 _ d1 (by kernel_rfl) (by kernel_rfl) (by kernel_rfl); clear d1; clear hd hf; intro K hK; go_simp; exact hK.out _ _ (Ext.refl _) rfl (FreshIf.no rfl) }) ?_
    exact RgAll.nil
  intro v W12 e1 hΦ _
  replace S := S.mono e1
  have v30 : v 30 = .bool false := hΦ 30 (by decide)
  simp only [layL, Act.put, List.setIfInBounds_toArray, List.set_cons_zero, List.set_cons_succ, Nat.reduceAdd]
  rw [v30]
  clear v30
  clear hΦ
  clear e1
  refine wpAny_done (by kernel_rfl) ?_ _
  go_upto_region 10 with (fail)
  refine wp_region_rgs 4 [some 67, some 68, some 69, some 70] [IsV (.pointer (some ⟨g11, 1, none⟩)), IsMag 8 (((za.natAbs : Nat) : Int)), IsPos, IsV (.bool false)] [] (by decide) (by kernel_rfl) (by kernel_rfl) (by kernel_rfl) ?_ ?_ ?_ ?_
  · repeat' (first | exact trivial | exact IsV.stb _ | exact IsI.stb _ _ | exact IsB.stb _ | exact IsR.stb _ _ | exact IsMag.stb _ _ | exact IsPos.stb | apply IsT3.stb | apply IsT2.stb | apply And.intro)
  · exact (fun _ h => by cases h)
  · refine RgAll.cons (by { (with_reducible refine RgL.mk (by rfl) ?_); intro v a w' hE hd hf; have ev0 := hf.lit 11 (.pointer (some ⟨g11, 0, none⟩)) (by kernel_rfl) (by kernel_rfl); clear hd hf; intro K hK; go_simp; exact hK.out _ _ (Ext.refl _) rfl (FreshIf.no rfl) }) ?_
    refine RgAll.cons (by { (with_reducible refine RgL.mk (by rfl) ?_); intro v a w' hE hd hf; have d0 : v 0 = .pointer (some ⟨g11, 1, none⟩) := hd 0 (by kernel_rfl); have ev0 := hf.val 0 67 _ d0 (by kernel_rfl) (by kernel_rfl) (by kernel_rfl); clear d0; obtain ⟨s8, a8, n8, c8, b8, h8⟩ := (S.mono hE).at 2 (g11) (IsI 8 (((za.natAbs : Nat) : Int))) rfl; have L0 := b8.c0; have L1 := b8.c1; obtain ⟨s9, a9, n9, c9, k9, h9⟩ := h8; injection k9 with k9; simp only [Array.mk.injEq, List.cons.injEq, Value.bool.injEq, Value.slice.injEq, and_true] at k9; obtain ⟨rfl, rfl, rfl, rfl⟩ := k9; clear hd hf; intro K hK; go_simp; exact hK.out _ _ (Ext.refl _) ⟨_, _, _, _, rfl, h9⟩ (FreshIf.no rfl) }) ?_
    refine RgAll.cons (by { (with_reducible refine RgL.mk (by rfl) ?_); intro v a w' hE hd hf; have d0 : (IsMag 8 (((za.natAbs : Nat) : Int))) (v 1) w' := hd 1 (by kernel_rfl); obtain ⟨s9, a9, n9, c9, z0, h9⟩ := d0; have ev0 := hf.val 1 68 _ z0 (by kernel_rfl) (by kernel_rfl) (by kernel_rfl); clear z0; clear hd hf; intro K hK; go_simp; exact hK.out _ _ (Ext.refl _) ⟨n9, rfl, Nat.pos_of_ne_zero (fun h0 => (Hg0.out) (h9.zero_iff.2 h0)), h9.len⟩ (FreshIf.no rfl) }) ?_
    refine RgAll.cons (by { (with_reducible refine RgL.mk (by rfl) ?_); intro v a w' hE hd hf; have d0 : IsPos (v 2) w' := hd 2 (by kernel_rfl); obtain ⟨n9, z0, p9, q9⟩ := d0; have ev0 := hf.val 2 69 _ z0 (by kernel_rfl) (by kernel_rfl) (by kernel_rfl); clear z0; have hb9 : ((n9 : Int) == 0) = false := (by rw [beq_eq_false_iff_ne]; omega); have hb8 : decide ((0 : Int) < (n9 : Int)) = true := (by simp; omega); have hb7 : decide (0 < n9) = true := (by simp; omega); have hb6 : (n9 == 0) = false := (by rw [beq_eq_false_iff_ne]; omega); clear hd hf; intro K hK; go_simp; exact hK.out _ _ (Ext.refl _) rfl (FreshIf.no rfl) }) ?_
    exact RgAll.nil
  intro v W13 e1 hΦ _
  replace S := S.mono e1
  have v3 : v 3 = .bool false := hΦ 3 (by decide)
  simp only [layL, Act.put, List.setIfInBounds_toArray, List.set_cons_zero, List.set_cons_succ, Nat.reduceAdd]
  rw [v3]
  clear v3
  clear hΦ
  clear e1
  refine wpList_nil ?_
  go_upto_region 12 with (fail)
  have hl := hid S.lt; have hw := S.ext.size
  refine wp_region_rgs 9 [some 83, some 84, some 85, some 82, some 86, some 87, some 88, some 14, some 15] [IsI 8 za, IsI 8 (((za.natAbs : Nat) : Int)), IsT3 (IsI 8 (za / (((za.natAbs : Nat) : Int)))) (IsI 8 (za % (((za.natAbs : Nat) : Int)))) (IsV (.int .i64 0)), IsT3 (IsI 8 (za / (((za.natAbs : Nat) : Int)))) (IsI 8 (za % (((za.natAbs : Nat) : Int)))) (IsV (.int .i64 0)), IsI 8 (za / (((za.natAbs : Nat) : Int))), IsI 8 (za % (((za.natAbs : Nat) : Int))), IsV (.int .i64 0), IsB W13, IsB W13] [7, 8] (by decide) (by kernel_rfl) (by kernel_rfl) (by kernel_rfl) ?_ ?_ ?_ ?_
  · repeat' (first | exact trivial | exact IsV.stb _ | exact IsI.stb _ _ | exact IsB.stb _ | exact IsR.stb _ _ | exact IsMag.stb _ _ | exact IsPos.stb | apply IsT3.stb | apply IsT2.stb | apply And.intro)
  · intro i hi; simp only [List.mem_cons, List.not_mem_nil, or_false] at hi; rcases hi with rfl | rfl <;> exact IsB.box _
  · refine RgAll.cons (by { (with_reducible refine RgL.mk (by rfl) ?_); intro v a w' hE hd hf; have ev0 := hf.lit 8 (.pointer (some ⟨g8, 0, none⟩)) (by kernel_rfl) (by kernel_rfl); obtain ⟨s8, a8, n8, c8, b8, h8⟩ := (S.mono hE).at 5 (g8) (IsI 8 za) rfl; have L0 := b8.c0; have L1 := b8.c1; clear hd hf; intro K hK; go_simp; exact hK.out _ _ (Ext.refl _) h8 (FreshIf.no rfl) }) ?_
    refine RgAll.cons (by { (with_reducible refine RgL.mk (by rfl) ?_); intro v a w' hE hd hf; have ev0 := hf.lit 11 (.pointer (some ⟨g11, 0, none⟩)) (by kernel_rfl) (by kernel_rfl); obtain ⟨s8, a8, n8, c8, b8, h8⟩ := (S.mono hE).at 2 (g11) (IsI 8 (((za.natAbs : Nat) : Int))) rfl; have L0 := b8.c0; have L1 := b8.c1; clear hd hf; intro K hK; go_simp; exact hK.out _ _ (Ext.refl _) h8 (FreshIf.no rfl) }) ?_
    refine RgAll.cons (by { (with_reducible refine RgL.mk (by rfl) ?_); intro v a w' hE hd hf; have d0 : (IsI 8 za) (v 0) w' := hd 0 (by kernel_rfl); have ev0 := hf.val 0 83 _ rfl (by kernel_rfl) (by kernel_rfl) (by kernel_rfl); have d1 : (IsI 8 (((za.natAbs : Nat) : Int))) (v 1) w' := hd 1 (by kernel_rfl); have ev1 := hf.val 1 84 _ rfl (by kernel_rfl) (by kernel_rfl) (by kernel_rfl); clear hd hf; intro K hK; go_simp; go_at_call 11; go_split_ands; (with_reducible refine Calls.mono (DivMod_f d0 d1 (by decide) (by decide) (Hg0.out)) ?_); rintro e w2 ⟨x, rfl, e2, hx⟩; exact hK.out _ _ e2 hx (FreshIf.no rfl) }) ?_
    refine RgAll.cons (by { (with_reducible refine RgL.mk (by rfl) ?_); intro v a w' hE hd hf; have d0 : (IsT3 (IsI 8 (za / (((za.natAbs : Nat) : Int)))) (IsI 8 (za % (((za.natAbs : Nat) : Int)))) (IsV (.int .i64 0))) (v 2) w' := hd 2 (by kernel_rfl); have ev0 := hf.val 2 85 _ rfl (by kernel_rfl) (by kernel_rfl) (by kernel_rfl); clear hd hf; intro K hK; go_simp; exact hK.out _ _ (Ext.refl _) d0 (FreshIf.no rfl) }) ?_
    refine RgAll.cons (by { (with_reducible refine RgL.mk (by rfl) ?_); intro v a w' hE hd hf; have d0 : (IsT3 (IsI 8 (za / (((za.natAbs : Nat) : Int)))) (IsI 8 (za % (((za.natAbs : Nat) : Int)))) (IsV (.int .i64 0))) (v 3) w' := hd 3 (by kernel_rfl); obtain ⟨x0, x1, x2, z0, y0, y1, y2⟩ := d0; have ev0 := hf.val 3 82 _ z0 (by kernel_rfl) (by kernel_rfl) (by kernel_rfl); clear z0; clear hd hf; intro K hK; go_simp; exact hK.out _ _ (Ext.refl _) y0 (FreshIf.no rfl) }) ?_
    refine RgAll.cons (by { (with_reducible refine RgL.mk (by rfl) ?_); intro v a w' hE hd hf; have d0 : (IsT3 (IsI 8 (za / (((za.natAbs : Nat) : Int)))) (IsI 8 (za % (((za.natAbs : Nat) : Int)))) (IsV (.int .i64 0))) (v 3) w' := hd 3 (by kernel_rfl); obtain ⟨x0, x1, x2, z0, y0, y1, y2⟩ := d0; have ev0 := hf.val 3 82 _ z0 (by kernel_rfl) (by kernel_rfl) (by kernel_rfl); clear z0; clear hd hf; intro K hK; go_simp; exact hK.out _ _ (Ext.refl _) y1 (FreshIf.no rfl) }) ?_
    refine RgAll.cons (by { (with_reducible refine RgL.mk (by rfl) ?_); intro v a w' hE hd hf; have d0 : (IsT3 (IsI 8 (za / (((za.natAbs : Nat) : Int)))) (IsI 8 (za % (((za.natAbs : Nat) : Int)))) (IsV (.int .i64 0))) (v 3) w' := hd 3 (by kernel_rfl); obtain ⟨x0, x1, x2, z0, y0, y1, y2⟩ := d0; have ev0 := hf.val 3 82 _ z0 (by kernel_rfl) (by kernel_rfl) (by kernel_rfl); clear z0; clear hd hf; intro K hK; go_simp; exact hK.out _ _ (Ext.refl _) y2 (FreshIf.no rfl) }) ?_
    refine RgAll.cons (by { (with_reducible refine RgL.mk (by rfl) ?_); intro v a w' hE hd hf; skip; clear hd hf; intro K hK; go_simp; refine hK.out _ _ ((Ext.refl _).alloc _) ⟨_, rfl, hE.size, Bx.new _ _ _ _ _⟩ FreshIf.yes }) ?_
    refine RgAll.cons (by { (with_reducible refine RgL.mk (by rfl) ?_); intro v a w' hE hd hf; skip; clear hd hf; intro K hK; go_simp; refine hK.out _ _ ((Ext.refl _).alloc _) ⟨_, rfl, hE.size, Bx.new _ _ _ _ _⟩ FreshIf.yes }) ?_
    exact RgAll.nil
  intro v W14 e1 hΦ hne
  replace S := S.mono e1
  obtain ⟨s86, a86, n86, c86, v4, h86⟩ := (hΦ 4 (by decide) : IsI 8 (za / (((za.natAbs : Nat) : Int))) (v 4) W14)
  obtain ⟨s87, a87, n87, c87, v5, h87⟩ := (hΦ 5 (by decide) : IsI 8 (za % (((za.natAbs : Nat) : Int))) (v 5) W14)
  have v6 : v 6 = .int .i64 0 := hΦ 6 (by decide)
  obtain ⟨g14, v7, q14, b13⟩ := (hΦ 7 (by decide) : IsB W13 (v 7) W14)
  replace S := S.addN (Apart.old hl.out q14) (Nat.le_trans hw q14) b13
  clear b13
  obtain ⟨g15, v8, q16, b15⟩ := (hΦ 8 (by decide) : IsB W13 (v 8) W14)
  replace S := S.addN (Apart.cons (fun h => hne 7 8 (by decide) (by decide) (by decide) (by decide) (by decide) (by rw [v7, v8, h])) (Apart.old hl.out q16)) (Nat.le_trans hw q16) b15
  clear b15
  clear hne
  simp only [layL, Act.put, List.setIfInBounds_toArray, List.set_cons_zero, List.set_cons_succ, Nat.reduceAdd]
  rw [v4, v5, v6, v7, v8]
  clear v4 v5 v6 v7 v8
  clear hΦ
  clear hl hw
  clear e1
  obtain ⟨s8, a8, n8, c8, b8, _⟩ := S.at 1 (g14) (IsI 0 0) rfl; have F1 := b8.c0; have F2 := b8.c1; have F3 := b8.f0; have F4 := b8.f1
  refine wpList_step fun K hK => ?_; go_simp; refine hK _ _ ?_; clear hK K
  clear F1 F2 F3 F4 b8
  obtain ⟨W15, hW, S2, G2, _⟩ := S.put 1 (g14) (IsI 0 0) (IsI 8 (za / (((za.natAbs : Nat) : Int)))) rfl s86 a86 n86 c86 (IsI.gstb _ _) ⟨_, _, _, _, rfl, h86⟩
  rw [← hW]; clear hW S
  replace h87 := h87.gr G2
  have S : St w W15 [(g15, IsI 0 0), (g14, IsI 8 (za / (((za.natAbs : Nat) : Int)))), (g13, IsI 0 0), (g12, IsI 2 za.sign), (g11, IsI 8 (((za.natAbs : Nat) : Int))), (g10, IsI 4 zc), (g9, IsI 8 zb), (g8, IsI 8 za), (w.heap.size + 1 + 1, IsR s3 x3), (w.heap.size + 1, IsR s2 x2), (w.heap.size, IsR s1 x1)] := S2; clear S2 G2
  clear h86
  obtain ⟨s8, a8, n8, c8, b8, _⟩ := S.at 0 (g15) (IsI 0 0) rfl; have F1 := b8.c0; have F2 := b8.c1; have F3 := b8.f0; have F4 := b8.f1
  refine wpList_step fun K hK => ?_; go_simp; refine hK _ _ ?_; clear hK K
  clear F1 F2 F3 F4 b8
  obtain ⟨W16, hW, S2, G2, _⟩ := S.put 0 (g15) (IsI 0 0) (IsI 8 (za % (((za.natAbs : Nat) : Int)))) rfl s87 a87 n87 c87 (IsI.gstb _ _) ⟨_, _, _, _, rfl, h87⟩
  rw [← hW]; clear hW S
  have S : St w W16 [(g15, IsI 8 (za % (((za.natAbs : Nat) : Int)))), (g14, IsI 8 (za / (((za.natAbs : Nat) : Int)))), (g13, IsI 0 0), (g12, IsI 2 za.sign), (g11, IsI 8 (((za.natAbs : Nat) : Int))), (g10, IsI 4 zc), (g9, IsI 8 zb), (g8, IsI 8 za), (w.heap.size + 1 + 1, IsR s3 x3), (w.heap.size + 1, IsR s2 x2), (w.heap.size, IsR s1 x1)] := S2; clear S2 G2
  clear h87
  refine wpList_step fun K hK => ?_; go_simp; refine hK _ _ ?_; clear hK K
  refine wpList_nil ?_
  go_upto_region 13 with (fail)
  have hl := hid S.lt; have hw := S.ext.size
  refine wp_region_rgO 10 [6, 7] [some 90, some 91, some 92, some 93, some 89, some 94, some 95, some 96, some 17, some 18] [IsI 8 zb, IsI 8 zb.natAbs, IsI 8 (((za.natAbs : Nat) : Int)), IsT3 (IsI 8 (zb.natAbs / (((za.natAbs : Nat) : Int)))) (IsI 8 (zb.natAbs % (((za.natAbs : Nat) : Int)))) (IsV (.int .i64 0)), IsT3 (IsI 8 (zb.natAbs / (((za.natAbs : Nat) : Int)))) (IsI 8 (zb.natAbs % (((za.natAbs : Nat) : Int)))) (IsV (.int .i64 0)), IsI 8 (zb.natAbs / (((za.natAbs : Nat) : Int))), IsI 8 (zb.natAbs % (((za.natAbs : Nat) : Int))), IsV (.int .i64 0), IsB W16, IsB W16] [8, 9] 3 (by kernel_rfl) (by decide) (by kernel_rfl) (by kernel_rfl) (by kernel_rfl) (by kernel_rfl) (by kernel_rfl) (by kernel_rfl) ?_ ?_ ?_ ?_ ?_
  · repeat' (first | exact trivial | exact IsV.stb _ | exact IsI.stb _ _ | exact IsB.stb _ | exact IsR.stb _ _ | exact IsMag.stb _ _ | exact IsPos.stb | apply IsT3.stb | apply IsT2.stb | apply And.intro)
  · intro i hi; simp only [List.mem_cons, List.not_mem_nil, or_false] at hi; rcases hi with rfl | rfl <;> exact IsB.box _
  · intro i hi; simp only [List.mem_cons, List.not_mem_nil, or_false] at hi; rcases hi with rfl | rfl
    · (intro v w' hE hd; have d0 : (IsT3 (IsI 8 (zb.natAbs / (((za.natAbs : Nat) : Int)))) (IsI 8 (zb.natAbs % (((za.natAbs : Nat) : Int)))) (IsV (.int .i64 0))) (v 4) w' := hd 4 (by kernel_rfl); obtain ⟨x0, x1, x2, z0, y0, y1, y2⟩ := d0; refine ⟨_, _, rfl, Or.inl ⟨by rfl, ?_⟩, y1⟩; intro w9; simp only [layL, Act.put, List.setIfInBounds_toArray, List.set_cons_zero, List.set_cons_succ, Nat.reduceAdd]; rw [z0]; go_simp)
    · (intro v w' hE hd; have d0 : (IsT3 (IsI 8 (zb.natAbs / (((za.natAbs : Nat) : Int)))) (IsI 8 (zb.natAbs % (((za.natAbs : Nat) : Int)))) (IsV (.int .i64 0))) (v 4) w' := hd 4 (by kernel_rfl); obtain ⟨x0, x1, x2, z0, y0, y1, y2⟩ := d0; refine ⟨_, _, rfl, Or.inl ⟨by rfl, ?_⟩, y2⟩; intro w9; simp only [layL, Act.put, List.setIfInBounds_toArray, List.set_cons_zero, List.set_cons_succ, Nat.reduceAdd]; rw [z0]; go_simp)
  · refine RgAll.cons (by { (with_reducible refine RgL.mk (by rfl) ?_); intro v a w' hE hd hf; have ev0 := hf.lit 9 (.pointer (some ⟨g9, 0, none⟩)) (by kernel_rfl) (by kernel_rfl); obtain ⟨s8, a8, n8, c8, b8, h8⟩ := (S.mono hE).at 6 (g9) (IsI 8 zb) rfl; have L0 := b8.c0; have L1 := b8.c1; clear hd hf; intro K hK; go_simp; exact hK.out _ _ (Ext.refl _) h8 (FreshIf.no rfl) }) ?_
    refine RgAll.cons (by { (with_reducible refine RgL.mk (by rfl) ?_); intro v a w' hE hd hf; have d0 : (IsI 8 zb) (v 0) w' := hd 0 (by kernel_rfl); have ev0 := hf.val 0 90 _ rfl (by kernel_rfl) (by kernel_rfl) (by kernel_rfl); clear hd hf; intro K hK; go_simp; go_at_call 17; go_split_ands; (with_reducible refine Calls.mono (Abs_f d0) ?_); rintro e w2 ⟨x, rfl, e2, hx⟩; exact hK.out _ _ e2 hx (FreshIf.no rfl) }) ?_
    refine RgAll.cons (by { (with_reducible refine RgL.mk (by rfl) ?_); intro v a w' hE hd hf; have ev0 := hf.lit 11 (.pointer (some ⟨g11, 0, none⟩)) (by kernel_rfl) (by kernel_rfl); obtain ⟨s8, a8, n8, c8, b8, h8⟩ := (S.mono hE).at 4 (g11) (IsI 8 (((za.natAbs : Nat) : Int))) rfl; have L0 := b8.c0; have L1 := b8.c1; clear hd hf; intro K hK; go_simp; exact hK.out _ _ (Ext.refl _) h8 (FreshIf.no rfl) }) ?_
    refine RgAll.cons (by { (with_reducible refine RgL.mk (by rfl) ?_); intro v a w' hE hd hf; have d0 : (IsI 8 zb.natAbs) (v 1) w' := hd 1 (by kernel_rfl); have ev0 := hf.val 1 91 _ rfl (by kernel_rfl) (by kernel_rfl) (by kernel_rfl); have d1 : (IsI 8 (((za.natAbs : Nat) : Int))) (v 2) w' := hd 2 (by kernel_rfl); have ev1 := hf.val 2 92 _ rfl (by kernel_rfl) (by kernel_rfl) (by kernel_rfl); clear hd hf; intro K hK; go_simp; go_at_call 11; go_split_ands; (with_reducible refine Calls.mono (DivMod_f d0 d1 (by decide) (by decide) (Hg0.out)) ?_); rintro e w2 ⟨x, rfl, e2, hx⟩; exact hK.out _ _ e2 hx (FreshIf.no rfl) }) ?_
    refine RgAll.cons (by { (with_reducible refine RgL.mk (by rfl) ?_); intro v a w' hE hd hf; have d0 : (IsT3 (IsI 8 (zb.natAbs / (((za.natAbs : Nat) : Int)))) (IsI 8 (zb.natAbs % (((za.natAbs : Nat) : Int)))) (IsV (.int .i64 0))) (v 3) w' := hd 3 (by kernel_rfl); have ev0 := hf.val 3 93 _ rfl (by kernel_rfl) (by kernel_rfl) (by kernel_rfl); clear hd hf; intro K hK; go_simp; exact hK.out _ _ (Ext.refl _) d0 (FreshIf.no rfl) }) ?_
    refine RgAll.cons (by { (with_reducible refine RgL.mk (by rfl) ?_); intro v a w' hE hd hf; have d0 : (IsT3 (IsI 8 (zb.natAbs / (((za.natAbs : Nat) : Int)))) (IsI 8 (zb.natAbs % (((za.natAbs : Nat) : Int)))) (IsV (.int .i64 0))) (v 4) w' := hd 4 (by kernel_rfl); obtain ⟨x0, x1, x2, z0, y0, y1, y2⟩ := d0; have ev0 := hf.val 4 89 _ z0 (by kernel_rfl) (by kernel_rfl) (by kernel_rfl); clear z0; clear hd hf; intro K hK; go_simp; exact hK.out _ _ (Ext.refl _) y0 (FreshIf.no rfl) }) ?_
    refine RgAll.cons (by { (with_reducible refine RgL.mk (by rfl) ?_); intro v a w' hE hd hf; have d0 : (IsT3 (IsI 8 (zb.natAbs / (((za.natAbs : Nat) : Int)))) (IsI 8 (zb.natAbs % (((za.natAbs : Nat) : Int)))) (IsV (.int .i64 0))) (v 4) w' := hd 4 (by kernel_rfl); obtain ⟨x0, x1, x2, z0, y0, y1, y2⟩ := d0; have ev0 := hf.val 4 89 _ z0 (by kernel_rfl) (by kernel_rfl) (by kernel_rfl); clear z0; clear hd hf; intro K hK; go_simp; exact hK.out _ _ (Ext.refl _) y1 (FreshIf.no rfl) }) ?_
    refine RgAll.cons (by { (with_reducible refine RgL.mk (by rfl) ?_); intro v a w' hE hd hf; have d0 : (IsT3 (IsI 8 (zb.natAbs / (((za.natAbs : Nat) : Int)))) (IsI 8 (zb.natAbs % (((za.natAbs : Nat) : Int)))) (IsV (.int .i64 0))) (v 4) w' := hd 4 (by kernel_rfl); obtain ⟨x0, x1, x2, z0, y0, y1, y2⟩ := d0; have ev0 := hf.val 4 89 _ z0 (by kernel_rfl) (by kernel_rfl) (by kernel_rfl); clear z0; clear hd hf; intro K hK; go_simp; exact hK.out _ _ (Ext.refl _) y2 (FreshIf.no rfl) }) ?_
    refine RgAll.cons (by { (with_reducible refine RgL.mk (by rfl) ?_); intro v a w' hE hd hf; skip; clear hd hf; intro K hK; go_simp; refine hK.out _ _ ((Ext.refl _).alloc _) ⟨_, rfl, hE.size, Bx.new _ _ _ _ _⟩ FreshIf.yes }) ?_
    refine RgAll.cons (by { (with_reducible refine RgL.mk (by rfl) ?_); intro v a w' hE hd hf; skip; clear hd hf; intro K hK; go_simp; refine hK.out _ _ ((Ext.refl _).alloc _) ⟨_, rfl, hE.size, Bx.new _ _ _ _ _⟩ FreshIf.yes }) ?_
    exact RgAll.nil
  intro v W17 e1 hΦ hne
  replace S := S.mono e1
  obtain ⟨s94, a94, n94, c94, v5, h94⟩ := (hΦ 5 (by decide) : IsI 8 (zb.natAbs / (((za.natAbs : Nat) : Int))) (v 5) W17)
  obtain ⟨s95, a95, n95, c95, v6, h95⟩ := (hΦ 6 (by decide) : IsI 8 (zb.natAbs % (((za.natAbs : Nat) : Int))) (v 6) W17)
  have v7 : v 7 = .int .i64 0 := hΦ 7 (by decide)
  obtain ⟨g17, v8, q18, b17⟩ := (hΦ 8 (by decide) : IsB W16 (v 8) W17)
  replace S := S.addN (Apart.old hl.out q18) (Nat.le_trans hw q18) b17
  clear b17
  obtain ⟨g18, v9, q20, b19⟩ := (hΦ 9 (by decide) : IsB W16 (v 9) W17)
  replace S := S.addN (Apart.cons (fun h => hne 8 9 (by decide) (by decide) (by decide) (by decide) (by decide) (by rw [v8, v9, h])) (Apart.old hl.out q20)) (Nat.le_trans hw q20) b19
  clear b19
  clear hne
  simp only [layL, Act.put, List.setIfInBounds_toArray, List.set_cons_zero, List.set_cons_succ, Nat.reduceAdd]
  rw [v5, v6, v7, v8, v9]
  clear v5 v6 v7 v8 v9
  clear hΦ
  clear hl hw
  clear e1
  obtain ⟨s8, a8, n8, c8, b8, _⟩ := S.at 1 (g17) (IsI 0 0) rfl; have F1 := b8.c0; have F2 := b8.c1; have F3 := b8.f0; have F4 := b8.f1
  refine wpAny_ready (rs := [10]) (by kernel_rfl) (by simp) (AllReady.cons rfl (fun K hK => ?_) AllReady.nil); go_simp; refine hK _ _ ?_; clear hK K
  clear F1 F2 F3 F4 b8
  obtain ⟨W18, hW, S2, G2, _⟩ := S.put 1 (g17) (IsI 0 0) (IsI 8 (zb.natAbs / (((za.natAbs : Nat) : Int)))) rfl s94 a94 n94 c94 (IsI.gstb _ _) ⟨_, _, _, _, rfl, h94⟩
  rw [← hW]; clear hW S
  replace h95 := h95.gr G2
  have S : St w W18 [(g18, IsI 0 0), (g17, IsI 8 (zb.natAbs / (((za.natAbs : Nat) : Int)))), (g15, IsI 8 (za % (((za.natAbs : Nat) : Int)))), (g14, IsI 8 (za / (((za.natAbs : Nat) : Int)))), (g13, IsI 0 0), (g12, IsI 2 za.sign), (g11, IsI 8 (((za.natAbs : Nat) : Int))), (g10, IsI 4 zc), (g9, IsI 8 zb), (g8, IsI 8 za), (w.heap.size + 1 + 1, IsR s3 x3), (w.heap.size + 1, IsR s2 x2), (w.heap.size, IsR s1 x1)] := S2; clear S2 G2
  clear h94
  obtain ⟨s8, a8, n8, c8, b8, _⟩ := S.at 0 (g18) (IsI 0 0) rfl; have F1 := b8.c0; have F2 := b8.c1; have F3 := b8.f0; have F4 := b8.f1
  refine wpAny_ready (rs := [11]) (by kernel_rfl) (by simp) (AllReady.cons rfl (fun K hK => ?_) AllReady.nil); go_simp; refine hK _ _ ?_; clear hK K
  clear F1 F2 F3 F4 b8
  obtain ⟨W19, hW, S2, G2, _⟩ := S.put 0 (g18) (IsI 0 0) (IsI 8 (zb.natAbs % (((za.natAbs : Nat) : Int)))) rfl s95 a95 n95 c95 (IsI.gstb _ _) ⟨_, _, _, _, rfl, h95⟩
  rw [← hW]; clear hW S
  have S : St w W19 [(g18, IsI 8 (zb.natAbs % (((za.natAbs : Nat) : Int)))), (g17, IsI 8 (zb.natAbs / (((za.natAbs : Nat) : Int)))), (g15, IsI 8 (za % (((za.natAbs : Nat) : Int)))), (g14, IsI 8 (za / (((za.natAbs : Nat) : Int)))), (g13, IsI 0 0), (g12, IsI 2 za.sign), (g11, IsI 8 (((za.natAbs : Nat) : Int))), (g10, IsI 4 zc), (g9, IsI 8 zb), (g8, IsI 8 za), (w.heap.size + 1 + 1, IsR s3 x3), (w.heap.size + 1, IsR s2 x2), (w.heap.size, IsR s1 x1)] := S2; clear S2 G2
  clear h95
  refine wpAny_ready (rs := [12]) (by kernel_rfl) (by simp) (AllReady.cons rfl (fun K hK => ?_) AllReady.nil); go_simp; refine hK _ _ ?_; clear hK K
  refine wpAny_done (by kernel_rfl) (NoPanic.normal ?_) _
  go_upto_region 14 with (fail)
  refine wp_region_rgs 16 [some 97, some 98, some 99, some 100, some 101, some 102, some 103, some 104, some 105, some 106, some 107, some 108, some 109, some 110, some 111, some 112] [IsV (.int .i64 0), IsV (.bool false), IsV (.bool false), IsV (.int .i64 0), IsV (.bool false), IsV (.bool false), IsV (.bool false), IsV (.pointer (some ⟨g15, 1, none⟩)), IsMag 8 (za % (((za.natAbs : Nat) : Int))), IsV (.int .i64 0), IsV (.pointer (some ⟨g18, 1, none⟩)), IsMag 8 (zb.natAbs % (((za.natAbs : Nat) : Int))), IsV (.int .i64 0), IsV (.int .i64 0), IsV (.bool false), IsV (.bool false)] [] (by decide) (by kernel_rfl) (by kernel_rfl) (by kernel_rfl) ?_ ?_ ?_ ?_
  · repeat' (first | exact trivial | exact IsV.stb _ | exact IsI.stb _ _ | exact IsB.stb _ | exact IsR.stb _ _ | exact IsMag.stb _ _ | exact IsPos.stb | apply IsT3.stb | apply IsT2.stb | apply And.intro)
  · exact (fun _ h => by cases h)
  · refine RgAll.cons (by { (with_reducible refine RgL.mk (by rfl) ?_); intro v a w' hE hd hf; have ev0 := hf.lit 16 (.int .i64 0) (by kernel_rfl) (by kernel_rfl); clear hd hf; intro K hK; go_simp; exact hK.out _ _ (Ext.refl _) rfl (FreshIf.no rfl) }) ?_
    refine RgAll.cons (by { (with_reducible refine RgL.mk (by rfl) ?_); intro v a w' hE hd hf; have d0 : v 0 = .int .i64 0 := hd 0 (by kernel_rfl); have ev0 := hf.val 0 97 _ d0 (by kernel_rfl) (by kernel_rfl) (by kernel_rfl); clear d0; clear hd hf; intro K hK; go_simp; exact hK.out _ _ (Ext.refl _) rfl (FreshIf.no rfl) }) ?_
    refine RgAll.cons (by { (with_reducible refine RgL.mk (by rfl) ?_); intro v a w' hE hd hf; have d0 : v 1 = .bool false := hd 1 (by kernel_rfl); have ev0 := hf.val 1 98 _ d0 (by kernel_rfl) (by kernel_rfl) (by kernel_rfl); clear d0; clear hd hf; intro K hK; go_simp; exact hK.out _ _ (Ext.refl _) rfl (FreshIf.no rfl) }) ?_
    refine RgAll.cons (by { (with_reducible refine RgL.mkG 2 99 false (by rfl) (by kernel_rfl) (by kernel_rfl) (by kernel_rfl) (by kernel_rfl) (by kernel_rfl) ?_ ?_); (focus (intro _ _ h; exact h)); intro v a w' hE hd hf; have ev0 := hf.lit 19 (.int .i64 0) (by kernel_rfl) (by kernel_rfl); clear hd hf; intro K hK; go_simp; exact hK.out _ _ (Ext.refl _) rfl (FreshIf.no rfl) }) ?_
    refine RgAll.cons (by { (with_reducible refine RgL.mkG 2 99 false (by rfl) (by kernel_rfl) (by kernel_rfl) (by kernel_rfl) (by kernel_rfl) (by kernel_rfl) ?_ ?_); (focus (intro _ _ h; exact h)); intro v a w' hE hd hf; have d0 : v 3 = .int .i64 0 := hd 3 (by kernel_rfl); have ev0 := hf.val 3 100 _ d0 (by kernel_rfl) (by kernel_rfl) (by kernel_rfl); clear d0; clear hd hf; intro K hK; go_simp; exact hK.out _ _ (Ext.refl _) rfl (FreshIf.no rfl) }) ?_
    refine RgAll.cons (by { (with_reducible refine RgL.mk (by rfl) ?_); intro v a w' hE hd hf; have d0 : v 2 = .bool false := hd 2 (by kernel_rfl); have ev0 := hf.val 2 99 _ d0 (by kernel_rfl) (by kernel_rfl) (by kernel_rfl); clear d0; have d1 : v 4 = .bool false := hd 4 (by kernel_rfl); have ev1 := hf.val 4 101 _ d1 (by kernel_rfl) (by kernel_rfl) (by kernel_rfl); clear d1; clear hd hf; intro K hK; go_simp; exact hK.out _ _ (Ext.refl _) rfl (FreshIf.no rfl) }) ?_
    refine RgAll.cons (by { (with_reducible refine RgL.mk (by rfl) ?_); intro v a w' hE hd hf; have d0 : v 5 = .bool false := hd 5 (by kernel_rfl); have ev0 := hf.val 5 102 _ d0 (by kernel_rfl) (by kernel_rfl) (by kernel_rfl); clear d0; clear hd hf; intro K hK; go_simp; exact hK.out _ _ (Ext.refl _) rfl (FreshIf.no rfl) }) ?_
    refine RgAll.cons (by { (with_reducible refine RgL.mkG 6 103 false (by rfl) (by kernel_rfl) (by kernel_rfl) (by kernel_rfl) (by kernel_rfl) (by kernel_rfl) ?_ ?_); (focus (intro _ _ h; exact h)); intro v a w' hE hd hf; have ev0 := hf.lit 15 (.pointer (some ⟨g15, 0, none⟩)) (by kernel_rfl) (by kernel_rfl); clear hd hf; intro K hK; go_simp; exact hK.out _ _ (Ext.refl _) rfl (FreshIf.no rfl) }) ?_
    refine RgAll.cons (by { (with_reducible refine RgL.mkG 6 103 false (by rfl) (by kernel_rfl) (by kernel_rfl) (by kernel_rfl) (by kernel_rfl) (by kernel_rfl) ?_ ?_); (focus (intro _ _ h; exact h)); intro v a w' hE hd hf; have d0 : v 7 = .pointer (some ⟨g15, 1, none⟩) := hd 7 (by kernel_rfl); have ev0 := hf.val 7 104 _ d0 (by kernel_rfl) (by kernel_rfl) (by kernel_rfl); clear d0; obtain ⟨s8, a8, n8, c8, b8, h8⟩ := (S.mono hE).at 2 (g15) (IsI 8 (za % (((za.natAbs : Nat) : Int)))) rfl; have L0 := b8.c0; have L1 := b8.c1; obtain ⟨s9, a9, n9, c9, k9, h9⟩ := h8; injection k9 with k9; simp only [Array.mk.injEq, List.cons.injEq, Value.bool.injEq, Value.slice.injEq, and_true] at k9; obtain ⟨rfl, rfl, rfl, rfl⟩ := k9; clear hd hf; intro K hK; go_simp; exact hK.out _ _ (Ext.refl _) ⟨_, _, _, _, rfl, h9⟩ (FreshIf.no rfl) }) ?_
    refine RgAll.cons (by { (with_reducible refine RgL.mkG 6 103 false (by rfl) (by kernel_rfl) (by kernel_rfl) (by kernel_rfl) (by kernel_rfl) (by kernel_rfl) ?_ ?_); (focus (intro _ _ h; exact h)); intro v a w' hE hd hf; have d0 : (IsMag 8 (za % (((za.natAbs : Nat) : Int)))) (v 8) w' := hd 8 (by kernel_rfl); obtain ⟨s9, a9, n9, c9, z0, h9⟩ := d0; have ev0 := hf.val 8 105 _ z0 (by kernel_rfl) (by kernel_rfl) (by kernel_rfl); clear z0; obtain rfl : n9 = 0 := h9.zero_iff.1 (Hr.out); clear hd hf; intro K hK; go_simp; exact hK.out _ _ (Ext.refl _) rfl (FreshIf.no rfl) }) ?_
    refine RgAll.cons (by { (with_reducible refine RgL.mkG 6 103 false (by rfl) (by kernel_rfl) (by kernel_rfl) (by kernel_rfl) (by kernel_rfl) (by kernel_rfl) ?_ ?_); (focus (intro _ _ h; exact h)); intro v a w' hE hd hf; have ev0 := hf.lit 18 (.pointer (some ⟨g18, 0, none⟩)) (by kernel_rfl) (by kernel_rfl); clear hd hf; intro K hK; go_simp; exact hK.out _ _ (Ext.refl _) rfl (FreshIf.no rfl) }) ?_
    refine RgAll.cons (by { (with_reducible refine RgL.mkG 6 103 false (by rfl) (by kernel_rfl) (by kernel_rfl) (by kernel_rfl) (by kernel_rfl) (by kernel_rfl) ?_ ?_); (focus (intro _ _ h; exact h)); intro v a w' hE hd hf; have d0 : v 10 = .pointer (some ⟨g18, 1, none⟩) := hd 10 (by kernel_rfl); have ev0 := hf.val 10 107 _ d0 (by kernel_rfl) (by kernel_rfl) (by kernel_rfl); clear d0; obtain ⟨s8, a8, n8, c8, b8, h8⟩ := (S.mono hE).at 0 (g18) (IsI 8 (zb.natAbs % (((za.natAbs : Nat) : Int)))) rfl; have L0 := b8.c0; have L1 := b8.c1; obtain ⟨s9, a9, n9, c9, k9, h9⟩ := h8; injection k9 with k9; simp only [Array.mk.injEq, List.cons.injEq, Value.bool.injEq, Value.slice.injEq, and_true] at k9; obtain ⟨rfl, rfl, rfl, rfl⟩ := k9; clear hd hf; intro K hK; go_simp; exact hK.out _ _ (Ext.refl _) ⟨_, _, _, _, rfl, h9⟩ (FreshIf.no rfl) }) ?_
    refine RgAll.cons (by { (with_reducible refine RgL.mkG 6 103 false (by rfl) (by kernel_rfl) (by kernel_rfl) (by kernel_rfl) (by kernel_rfl) (by kernel_rfl) ?_ ?_); (focus (intro _ _ h; exact h)); intro v a w' hE hd hf; have d0 : (IsMag 8 (zb.natAbs % (((za.natAbs : Nat) : Int)))) (v 11) w' := hd 11 (by kernel_rfl); obtain ⟨s9, a9, n9, c9, z0, h9⟩ := d0; have ev0 := hf.val 11 108 _ z0 (by kernel_rfl) (by kernel_rfl) (by kernel_rfl); clear z0; obtain rfl : n9 = 0 := h9.zero_iff.1 (Hs.out); clear hd hf; intro K hK; go_simp; exact hK.out _ _ (Ext.refl _) rfl (FreshIf.no rfl) }) ?_
    refine RgAll.cons (by { (with_reducible refine RgL.mkG 6 103 false (by rfl) (by kernel_rfl) (by kernel_rfl) (by kernel_rfl) (by kernel_rfl) (by kernel_rfl) ?_ ?_); (focus (intro _ _ h; exact h)); intro v a w' hE hd hf; have d0 : v 9 = .int .i64 0 := hd 9 (by kernel_rfl); have ev0 := hf.val 9 106 _ d0 (by kernel_rfl) (by kernel_rfl) (by kernel_rfl); clear d0; have d1 : v 12 = .int .i64 0 := hd 12 (by kernel_rfl); have ev1 := hf.val 12 109 _ d1 (by kernel_rfl) (by kernel_rfl) (by kernel_rfl); clear d1; clear hd hf; intro K hK; go_simp; exact hK.out _ _ (Ext.refl _) rfl (FreshIf.no rfl) }) ?_
    refine RgAll.cons (by { (with_reducible refine RgL.mkG 6 103 false (by rfl) (by kernel_rfl) (by kernel_rfl) (by kernel_rfl) (by kernel_rfl) (by kernel_rfl) ?_ ?_); (focus (intro _ _ h; exact h)); intro v a w' hE hd hf; have d0 : v 13 = .int .i64 0 := hd 13 (by kernel_rfl); have ev0 := hf.val 13 110 _ d0 (by kernel_rfl) (by kernel_rfl) (by kernel_rfl); clear d0; clear hd hf; intro K hK; go_simp; exact hK.out _ _ (Ext.refl _) rfl (FreshIf.no rfl) }) ?_
    refine RgAll.cons (by { (with_reducible refine RgL.mk (by rfl) ?_); intro v a w' hE hd hf; have d0 : v 6 = .bool false := hd 6 (by kernel_rfl); have ev0 := hf.val 6 103 _ d0 (by kernel_rfl) (by kernel_rfl) (by kernel_rfl); clear d0; have d1 : v 14 = .bool false := hd 14 (by kernel_rfl); have ev1 := hf.val 14 111 _ d1 (by kernel_rfl) (by kernel_rfl) (by kernel_rfl); clear d1; clear hd hf; intro K hK; go_simp; exact hK.out _ _ (Ext.refl _) rfl (FreshIf.no rfl) }) ?_
    exact RgAll.nil
  intro v W20 e1 hΦ _
  replace S := S.mono e1
  have v15 : v 15 = .bool false := hΦ 15 (by decide)
  simp only [layL, Act.put, List.setIfInBounds_toArray, List.set_cons_zero, List.set_cons_succ, Nat.reduceAdd]
  rw [v15]
  clear v15
  clear hΦ
  clear e1
  refine wpList_nil ?_
  go_upto_region 16 with (fail)
  refine wp_region_rgs 15 [some 113, some 114, some 115, some 116, some 117, some 118, some 119, some 120, some 121, some 122, some 123, some 124, some 125, some 126, some 127] [IsV (.pointer (some ⟨g9, 1, none⟩)), IsMag 8 zb, IsV (.int .i64 0), IsV (.bool false), IsV (.bool false), IsV (undef), IsV (undef), IsV (undef), IsV (undef), IsV (undef), IsV (undef), IsV (undef), IsV (undef), IsV (undef), IsV (.bool false)] [] (by decide) (by kernel_rfl) (by kernel_rfl) (by kernel_rfl) ?_ ?_ ?_ ?_
  · repeat' (first | exact trivial | exact IsV.stb _ | exact IsI.stb _ _ | exact IsB.stb _ | exact IsR.stb _ _ | exact IsMag.stb _ _ | exact IsPos.stb | apply IsT3.stb | apply IsT2.stb | apply And.intro)
  · exact (fun _ h => by cases h)
  · refine RgAll.cons (by { (with_reducible refine RgL.mk (by rfl) ?_); intro v a w' hE hd hf; have ev0 := hf.lit 9 (.pointer (some ⟨g9, 0, none⟩)) (by kernel_rfl) (by kernel_rfl); clear hd hf; intro K hK; go_simp; exact hK.out _ _ (Ext.refl _) rfl (FreshIf.no rfl) }) ?_
    refine RgAll.cons (by { (with_reducible refine RgL.mk (by rfl) ?_); intro v a w' hE hd hf; have d0 : v 0 = .pointer (some ⟨g9, 1, none⟩) := hd 0 (by kernel_rfl); have ev0 := hf.val 0 113 _ d0 (by kernel_rfl) (by kernel_rfl) (by kernel_rfl); clear d0; obtain ⟨s8, a8, n8, c8, b8, h8⟩ := (S.mono hE).at 8 (g9) (IsI 8 zb) rfl; have L0 := b8.c0; have L1 := b8.c1; obtain ⟨s9, a9, n9, c9, k9, h9⟩ := h8; injection k9 with k9; simp only [Array.mk.injEq, List.cons.injEq, Value.bool.injEq, Value.slice.injEq, and_true] at k9; obtain ⟨rfl, rfl, rfl, rfl⟩ := k9; clear hd hf; intro K hK; go_simp; exact hK.out _ _ (Ext.refl _) ⟨_, _, _, _, rfl, h9⟩ (FreshIf.no rfl) }) ?_
    refine RgAll.cons (by { (with_reducible refine RgL.mk (by rfl) ?_); intro v a w' hE hd hf; have d0 : (IsMag 8 zb) (v 1) w' := hd 1 (by kernel_rfl); obtain ⟨s9, a9, n9, c9, z0, h9⟩ := d0; have ev0 := hf.val 1 114 _ z0 (by kernel_rfl) (by kernel_rfl) (by kernel_rfl); clear z0; obtain rfl : n9 = 0 := h9.zero_iff.1 (HZb.out); clear hd hf; intro K hK; go_simp; exact hK.out _ _ (Ext.refl _) rfl (FreshIf.no rfl) }) ?_
    refine RgAll.cons (by { (with_reducible refine RgL.mk (by rfl) ?_); intro v a w' hE hd hf; have d0 : v 2 = .int .i64 0 := hd 2 (by kernel_rfl); have ev0 := hf.val 2 115 _ d0 (by kernel_rfl) (by kernel_rfl) (by kernel_rfl); clear d0; clear hd hf; intro K hK; go_simp; exact hK.out _ _ (Ext.refl _) rfl (FreshIf.no rfl) }) ?_
    refine RgAll.cons (by { (with_reducible refine RgL.mk (by rfl) ?_); intro v a w' hE hd hf; have d0 : v 3 = .bool false := hd 3 (by kernel_rfl); have ev0 := hf.val 3 116 _ d0 (by kernel_rfl) (by kernel_rfl) (by kernel_rfl); clear d0; clear hd hf; intro K hK; go_simp; exact hK.out _ _ (Ext.refl _) rfl (FreshIf.no rfl) }) ?_
    refine RgAll.cons (by { (with_reducible refine RgL.mkN 4 117 false (by kernel_rfl) (by kernel_rfl) (by kernel_rfl) (by kernel_rfl) (by kernel_rfl) (by kernel_rfl) ?_ (by kernel_rfl) ?_); (focus (intro _ _ h; exact h)); (focus (intro _; rfl)) }) ?_
    refine RgAll.cons (by { (with_reducible refine RgL.mkN 4 117 false (by kernel_rfl) (by kernel_rfl) (by kernel_rfl) (by kernel_rfl) (by kernel_rfl) (by kernel_rfl) ?_ (by kernel_rfl) ?_); (focus (intro _ _ h; exact h)); (focus (intro _; rfl)) }) ?_
    refine RgAll.cons (by { (with_reducible refine RgL.mkN 4 117 false (by kernel_rfl) (by kernel_rfl) (by kernel_rfl) (by kernel_rfl) (by kernel_rfl) (by kernel_rfl) ?_ (by kernel_rfl) ?_); (focus (intro _ _ h; exact h)); (focus (intro _; rfl)) }) ?_
    refine RgAll.cons (by { (with_reducible refine RgL.mkN 4 117 false (by kernel_rfl) (by kernel_rfl) (by kernel_rfl) (by kernel_rfl) (by kernel_rfl) (by kernel_rfl) ?_ (by kernel_rfl) ?_); (focus (intro _ _ h; exact h)); (focus (intro _; rfl)) }) ?_
    refine RgAll.cons (by { (with_reducible refine RgL.mkU 8 121 false (by kernel_rfl) (by kernel_rfl) (by kernel_rfl) (by kernel_rfl) (by kernel_rfl) (by kernel_rfl) ?_ (by kernel_rfl) ?_); (focus (intro _ _ h; exact h)); (focus (intro _; rfl)) }) ?_
    refine RgAll.cons (by { (with_reducible refine RgL.mkU 8 121 false (by kernel_rfl) (by kernel_rfl) (by kernel_rfl) (by kernel_rfl) (by kernel_rfl) (by kernel_rfl) ?_ (by kernel_rfl) ?_); (focus (intro _ _ h; exact h)); (focus (intro _; rfl)) }) ?_
    refine RgAll.cons (by { (with_reducible refine RgL.mkU 8 121 false (by kernel_rfl) (by kernel_rfl) (by kernel_rfl) (by kernel_rfl) (by kernel_rfl) (by kernel_rfl) ?_ (by kernel_rfl) ?_); (focus (intro _ _ h; exact h)); (focus (intro _; rfl)) }) ?_
    refine RgAll.cons (by { (with_reducible refine RgL.mkU 8 121 false (by kernel_rfl) (by kernel_rfl) (by kernel_rfl) (by kernel_rfl) (by kernel_rfl) (by kernel_rfl) ?_ (by kernel_rfl) ?_); (focus (intro _ _ h; exact h)); (focus (intro _; rfl)) }) ?_
    refine RgAll.cons (by { (with_reducible refine RgL.mkN 4 117 false (by kernel_rfl) (by kernel_rfl) (by kernel_rfl) (by kernel_rfl) (by kernel_rfl) (by kernel_rfl) ?_ (by kernel_rfl) ?_); (focus (intro _ _ h; exact h)); (focus (intro _; rfl)) }) ?_
    refine RgAll.cons (by { (with_reducible refine RgL.mk (by rfl) ?_); intro v a w' hE hd hf; have d0 : v 4 = .bool false := hd 4 (by kernel_rfl); have ev0 := hf.val 4 117 _ d0 (by kernel_rfl) (by kernel_rfl) (by kernel_rfl); clear d0; clear hd hf; intro K hK; go_simp; exact hK.out _ _ (Ext.refl _) rfl (FreshIf.no rfl) }) ?_
    exact RgAll.nil
  intro v W21 e1 hΦ _
  replace S := S.mono e1
  have v14 : v 14 = .bool false := hΦ 14 (by decide)
  simp only [layL, Act.put, List.setIfInBounds_toArray, List.set_cons_zero, List.set_cons_succ, Nat.reduceAdd]
  rw [v14]
  clear v14
  clear hΦ
  clear e1
  refine wpList_nil ?_
  go_upto_region 18 with (fail)
  refine wp_region_rg 16 [some 128, some 129, some 130, some 131, some 132, some 133, some 134, some 135, some 136, some 137, some 138, some 139, some 140, some 141, some 142, some 6] [IsV (.bool true), IsV (.bool true), IsI 8 za, IsI 4 zc, IsI 12 (za * zc), IsI 8 zb, IsI 4 zc, IsI 12 (zb * zc), IsI 12 (Int.gcd (za * zc) (zb * zc)), IsI 8 (((za.natAbs : Nat) : Int)), IsI 4 zc, IsI 4 zc.natAbs, IsI 12 ((((za.natAbs : Nat) : Int)) * zc.natAbs), IsV (.bool true), IsV (.bool true), IsV (.bool true)] [] 0 (by kernel_rfl) (by decide) (by kernel_rfl) (by kernel_rfl) (by kernel_rfl) (by kernel_rfl) (by kernel_rfl) ?_ ?_ ?_ ?_
  · repeat' (first | exact trivial | exact IsV.stb _ | exact IsI.stb _ _ | exact IsB.stb _ | exact IsR.stb _ _ | exact IsMag.stb _ _ | exact IsPos.stb | apply IsT3.stb | apply IsT2.stb | apply And.intro)
  · exact (fun _ h => by cases h)
  · refine RgAll.cons (by { (with_reducible refine RgL.mk (by rfl) ?_); intro v a w' hE hd hf; have ev0 := hf.lit 7 (.bool true) (by kernel_rfl) (by kernel_rfl); clear hd hf; intro K hK; go_simp; exact hK.out _ _ (Ext.refl _) rfl (FreshIf.no rfl) }) ?_
    refine RgAll.cons (by { (with_reducible refine RgL.mk (by rfl) ?_); intro v a w' hE hd hf; have d0 : v 0 = .bool true := hd 0 (by kernel_rfl); have ev0 := hf.val 0 128 _ d0 (by kernel_rfl) (by kernel_rfl) (by kernel_rfl); clear d0; clear hd hf; intro K hK; go_simp; exact hK.out _ _ (Ext.refl _) rfl (FreshIf.no rfl) }) ?_
    refine RgAll.cons (by { (with_reducible refine RgL.mkG 1 129 true (by rfl) (by kernel_rfl) (by kernel_rfl) (by kernel_rfl) (by kernel_rfl) (by kernel_rfl) ?_ ?_); (focus (intro _ _ h; exact h)); intro v a w' hE hd hf; have ev0 := hf.lit 8 (.pointer (some ⟨g8, 0, none⟩)) (by kernel_rfl) (by kernel_rfl); obtain ⟨s8, a8, n8, c8, b8, h8⟩ := (S.mono hE).at 9 (g8) (IsI 8 za) rfl; have L0 := b8.c0; have L1 := b8.c1; clear hd hf; intro K hK; go_simp; exact hK.out _ _ (Ext.refl _) h8 (FreshIf.no rfl) }) ?_
    refine RgAll.cons (by { (with_reducible refine RgL.mkG 1 129 true (by rfl) (by kernel_rfl) (by kernel_rfl) (by kernel_rfl) (by kernel_rfl) (by kernel_rfl) ?_ ?_); (focus (intro _ _ h; exact h)); intro v a w' hE hd hf; have ev0 := hf.lit 10 (.pointer (some ⟨g10, 0, none⟩)) (by kernel_rfl) (by kernel_rfl); obtain ⟨s8, a8, n8, c8, b8, h8⟩ := (S.mono hE).at 7 (g10) (IsI 4 zc) rfl; have L0 := b8.c0; have L1 := b8.c1; clear hd hf; intro K hK; go_simp; exact hK.out _ _ (Ext.refl _) h8 (FreshIf.no rfl) }) ?_
    refine RgAll.cons (by { (with_reducible refine RgL.mkG 1 129 true (by rfl) (by kernel_rfl) (by kernel_rfl) (by kernel_rfl) (by kernel_rfl) (by kernel_rfl) ?_ ?_); (focus (intro _ _ h; exact h)); intro v a w' hE hd hf; have d0 : (IsI 8 za) (v 2) w' := hd 2 (by kernel_rfl); have ev0 := hf.val 2 130 _ rfl (by kernel_rfl) (by kernel_rfl) (by kernel_rfl); have d1 : (IsI 4 zc) (v 3) w' := hd 3 (by kernel_rfl); have ev1 := hf.val 3 131 _ rfl (by kernel_rfl) (by kernel_rfl) (by kernel_rfl); clear hd hf; intro K hK; go_simp; go_at_call 13; go_split_ands; (with_reducible refine Calls.mono (Mul_f d0 d1 (by decide) (by decide)) ?_); rintro e w2 ⟨x, rfl, e2, hx⟩; exact hK.out _ _ e2 hx (FreshIf.no rfl) }) ?_
    refine RgAll.cons (by { (with_reducible refine RgL.mkG 1 129 true (by rfl) (by kernel_rfl) (by kernel_rfl) (by kernel_rfl) (by kernel_rfl) (by kernel_rfl) ?_ ?_); (focus (intro _ _ h; exact h)); intro v a w' hE hd hf; have ev0 := hf.lit 9 (.pointer (some ⟨g9, 0, none⟩)) (by kernel_rfl) (by kernel_rfl); obtain ⟨s8, a8, n8, c8, b8, h8⟩ := (S.mono hE).at 8 (g9) (IsI 8 zb) rfl; have L0 := b8.c0; have L1 := b8.c1; clear hd hf; intro K hK; go_simp; exact hK.out _ _ (Ext.refl _) h8 (FreshIf.no rfl) }) ?_
    refine RgAll.cons (by { (with_reducible refine RgL.mkG 1 129 true (by rfl) (by kernel_rfl) (by kernel_rfl) (by kernel_rfl) (by kernel_rfl) (by kernel_rfl) ?_ ?_); (focus (intro _ _ h; exact h)); intro v a w' hE hd hf; have ev0 := hf.lit 10 (.pointer (some ⟨g10, 0, none⟩)) (by kernel_rfl) (by kernel_rfl); obtain ⟨s8, a8, n8, c8, b8, h8⟩ := (S.mono hE).at 7 (g10) (IsI 4 zc) rfl; have L0 := b8.c0; have L1 := b8.c1; clear hd hf; intro K hK; go_simp; exact hK.out _ _ (Ext.refl _) h8 (FreshIf.no rfl) }) ?_
    refine RgAll.cons (by { (with_reducible refine RgL.mkG 1 129 true (by rfl) (by kernel_rfl) (by kernel_rfl) (by kernel_rfl) (by kernel_rfl) (by kernel_rfl) ?_ ?_); (focus (intro _ _ h; exact h)); intro v a w' hE hd hf; have d0 : (IsI 8 zb) (v 5) w' := hd 5 (by kernel_rfl); have ev0 := hf.val 5 133 _ rfl (by kernel_rfl) (by kernel_rfl) (by kernel_rfl); have d1 : (IsI 4 zc) (v 6) w' := hd 6 (by kernel_rfl); have ev1 := hf.val 6 134 _ rfl (by kernel_rfl) (by kernel_rfl) (by kernel_rfl); clear hd hf; intro K hK; go_simp; go_at_call 13; go_split_ands; (with_reducible refine Calls.mono (Mul_f d0 d1 (by decide) (by decide)) ?_); rintro e w2 ⟨x, rfl, e2, hx⟩; exact hK.out _ _ e2 hx (FreshIf.no rfl) }) ?_
    refine RgAll.cons (by { (with_reducible refine RgL.mkG 1 129 true (by rfl) (by kernel_rfl) (by kernel_rfl) (by kernel_rfl) (by kernel_rfl) (by kernel_rfl) ?_ ?_); (focus (intro _ _ h; exact h)); intro v a w' hE hd hf; have d0 : (IsI 12 (za * zc)) (v 4) w' := hd 4 (by kernel_rfl); have ev0 := hf.val 4 132 _ rfl (by kernel_rfl) (by kernel_rfl) (by kernel_rfl); have d1 : (IsI 12 (zb * zc)) (v 7) w' := hd 7 (by kernel_rfl); have ev1 := hf.val 7 135 _ rfl (by kernel_rfl) (by kernel_rfl) (by kernel_rfl); clear hd hf; intro K hK; go_simp; go_at_call 19; go_split_ands; (with_reducible refine Calls.mono (Gcd_f d0 d1 (by decide) (by decide)) ?_); rintro e w2 ⟨x, rfl, e2, hx⟩; exact hK.out _ _ e2 hx (FreshIf.no rfl) }) ?_
    refine RgAll.cons (by { (with_reducible refine RgL.mkG 1 129 true (by rfl) (by kernel_rfl) (by kernel_rfl) (by kernel_rfl) (by kernel_rfl) (by kernel_rfl) ?_ ?_); (focus (intro _ _ h; exact h)); intro v a w' hE hd hf; have ev0 := hf.lit 11 (.pointer (some ⟨g11, 0, none⟩)) (by kernel_rfl) (by kernel_rfl); obtain ⟨s8, a8, n8, c8, b8, h8⟩ := (S.mono hE).at 6 (g11) (IsI 8 (((za.natAbs : Nat) : Int))) rfl; have L0 := b8.c0; have L1 := b8.c1; clear hd hf; intro K hK; go_simp; exact hK.out _ _ (Ext.refl _) h8 (FreshIf.no rfl) }) ?_
    refine RgAll.cons (by { (with_reducible refine RgL.mkG 1 129 true (by rfl) (by kernel_rfl) (by kernel_rfl) (by kernel_rfl) (by kernel_rfl) (by kernel_rfl) ?_ ?_); (focus (intro _ _ h; exact h)); intro v a w' hE hd hf; have ev0 := hf.lit 10 (.pointer (some ⟨g10, 0, none⟩)) (by kernel_rfl) (by kernel_rfl); obtain ⟨s8, a8, n8, c8, b8, h8⟩ := (S.mono hE).at 7 (g10) (IsI 4 zc) rfl; have L0 := b8.c0; have L1 := b8.c1; clear hd hf; intro K hK; go_simp; exact hK.out _ _ (Ext.refl _) h8 (FreshIf.no rfl) }) ?_
    refine RgAll.cons (by { (with_reducible refine RgL.mkG 1 129 true (by rfl) (by kernel_rfl) (by kernel_rfl) (by kernel_rfl) (by kernel_rfl) (by kernel_rfl) ?_ ?_); (focus (intro _ _ h; exact h)); intro v a w' hE hd hf; have d0 : (IsI 4 zc) (v 10) w' := hd 10 (by kernel_rfl); have ev0 := hf.val 10 138 _ rfl (by kernel_rfl) (by kernel_rfl) (by kernel_rfl); clear hd hf; intro K hK; go_simp; go_at_call 17; go_split_ands; (with_reducible refine Calls.mono (Abs_f d0) ?_); rintro e w2 ⟨x, rfl, e2, hx⟩; exact hK.out _ _ e2 hx (FreshIf.no rfl) }) ?_
    refine RgAll.cons (by { (with_reducible refine RgL.mkG 1 129 true (by rfl) (by kernel_rfl) (by kernel_rfl) (by kernel_rfl) (by kernel_rfl) (by kernel_rfl) ?_ ?_); (focus (intro _ _ h; exact h)); intro v a w' hE hd hf; have d0 : (IsI 8 (((za.natAbs : Nat) : Int))) (v 9) w' := hd 9 (by kernel_rfl); have ev0 := hf.val 9 137 _ rfl (by kernel_rfl) (by kernel_rfl) (by kernel_rfl); have d1 : (IsI 4 zc.natAbs) (v 11) w' := hd 11 (by kernel_rfl); have ev1 := hf.val 11 139 _ rfl (by kernel_rfl) (by kernel_rfl) (by kernel_rfl); clear hd hf; intro K hK; go_simp; go_at_call 13; go_split_ands; (with_reducible refine Calls.mono (Mul_f d0 d1 (by decide) (by decide)) ?_); rintro e w2 ⟨x, rfl, e2, hx⟩; exact hK.out _ _ e2 hx (FreshIf.no rfl) }) ?_
    refine RgAll.cons (by { (with_reducible refine RgL.mkG 1 129 true (by rfl) (by kernel_rfl) (by kernel_rfl) (by kernel_rfl) (by kernel_rfl) (by kernel_rfl) ?_ ?_); (focus (intro _ _ h; exact h)); intro v a w' hE hd hf; have d0 : (IsI 12 (Int.gcd (za * zc) (zb * zc))) (v 8) w' := hd 8 (by kernel_rfl); have ev0 := hf.val 8 136 _ rfl (by kernel_rfl) (by kernel_rfl) (by kernel_rfl); have d1 : (IsI 12 ((((za.natAbs : Nat) : Int)) * zc.natAbs)) (v 12) w' := hd 12 (by kernel_rfl); have ev1 := hf.val 12 140 _ rfl (by kernel_rfl) (by kernel_rfl) (by kernel_rfl); clear hd hf; intro K hK; go_simp; go_at_call 14; go_split_ands; (with_reducible refine Calls.mono (Same_t d0 d1 (H9.out) (by decide)) ?_); rintro e w2 ⟨x, rfl, e2, hx⟩; exact hK.out _ _ e2 hx (FreshIf.no rfl) }) ?_
    refine RgAll.cons (by { (with_reducible refine RgL.mk (by rfl) ?_); intro v a w' hE hd hf; have d0 : v 1 = .bool true := hd 1 (by kernel_rfl); have ev0 := hf.val 1 129 _ d0 (by kernel_rfl) (by kernel_rfl) (by kernel_rfl); clear d0; have d1 : v 13 = .bool true := hd 13 (by kernel_rfl); have ev1 := hf.val 13 141 _ d1 (by kernel_rfl) (by kernel_rfl) (by kernel_rfl); clear d1; clear hd hf; intro K hK; go_simp; exact hK.out _ _ (Ext.refl _) rfl (FreshIf.no rfl) }) ?_
    refine RgAll.cons (by { (with_reducible refine RgL.mk (by rfl) ?_); intro v a w' hE hd hf; have d0 : v 14 = .bool true := hd 14 (by kernel_rfl); have ev0 := hf.val 14 142 _ d0 (by kernel_rfl) (by kernel_rfl) (by kernel_rfl); clear d0; clear hd hf; intro K hK; go_simp; exact hK.out _ _ (Ext.refl _) rfl (FreshIf.no rfl) }) ?_
    exact RgAll.nil
  intro v W22 e1 hΦ _
  replace S := S.mono e1
  have v15 : v 15 = .bool true := hΦ 15 (by decide)
  simp only [layL, Act.put, List.setIfInBounds_toArray, List.set_cons_zero, List.set_cons_succ, Nat.reduceAdd]
  rw [v15]
  clear v15
  clear hΦ
  clear e1
  refine wpAny_done (by kernel_rfl) ?_ _
  go_wp2_with fail
  exact bodyPost_ret (v := .bool true) (by simp [results, Tryd.results4, go_sem]) rfl (⟨_, rfl, S.ext, rfl⟩)

set_option maxRecDepth 100000 in
set_option maxHeartbeats 8000000 in
theorem Common_C (w : World) (s1 s2 s3 : Bool) (a1 a2 a3 : Option Addr) (n1 n2 n3 c1 c2 c3 : Nat) (x1 x2 x3 : List Nat) (h1 : Wd w a1 n1 c1 x1) (h2 : Wd w a2 n2 c2 x2) (h3 : Wd w a3 n3 c3 x3) (ht : Tab w) (za zb zc : Int) (ha : rawZ s1 x1 8 = za) (hb : rawZ s2 x2 8 = zb) (hc : rawZ s3 x3 4 = zc) (hz : zb = 0) (hz2 : za = 0) :
    Calls Tryd.prog 4 #[.agg #[.bool s1, .slice a1 n1 c1], .agg #[.bool s2, .slice a2 n2 c2], .agg #[.bool s3, .slice a3 n3 c3]] w (Ret w (IsV (.bool true))) := by
  have Ha := hid ha
  have Hb := hid hb
  have Hc := hid hc
  have HZb := hid hz
  have HZa := hid hz2
  have HG := hid (show ((Int.gcd za zb : Nat) : Int) = ((za.natAbs : Nat) : Int) by rw [hz, Int.gcd_zero])
  have HG2 := hid (show ((Int.gcd zb za : Nat) : Int) = ((za.natAbs : Nat) : Int) by rw [hz, Int.gcd_comm, Int.gcd_zero])
  have H1 := hid (show za.sign * za + 0 * zb = ((za.natAbs : Nat) : Int) by rw [hz, Int.mul_zero, Int.add_zero, Int.mul_comm]; exact Int.mul_sign_self za)
  have Hg0 := hid (show ((za.natAbs : Nat) : Int) = 0 by omega)
  have HSg := hid (show ((za.natAbs : Nat) : Int).sign = 0 by rw [hz2]; rfl)
  clear ha hb hc hz hz2
  obtain ⟨W, hW, S⟩ : ∃ W, W = ((w.alloc (.cells #[.bool s1, .slice a1 n1 c1] 24)).alloc (.cells #[.bool s2, .slice a2 n2 c2] 24)).alloc (.cells #[.bool s3, .slice a3 n3 c3] 24) ∧ St w W [(w.heap.size + 1 + 1, IsR s3 x3), (w.heap.size + 1, IsR s2 x2), (w.heap.size, IsR s1 x1)] := ⟨_, rfl, ((((St.start w).new' (w.heap.size) (by simp) s1 a1 n1 c1 24 (IsR s1 x1) (IsR.gstb _ _) ⟨_, _, _, rfl, h1⟩).new' (w.heap.size + 1) (by simp) s2 a2 n2 c2 24 (IsR s2 x2) (IsR.gstb _ _) ⟨_, _, _, rfl, h2.ext ((Ext.refl _).alloc _)⟩).new' (w.heap.size + 1 + 1) (by simp) s3 a3 n3 c3 24 (IsR s3 x3) (IsR.gstb _ _) ⟨_, _, _, rfl, h3.ext (((Ext.refl _).alloc _).alloc _)⟩)⟩
  clear h1 h2 h3
  go_enter Tryd.func4, Tryd.ntmps4
  go_upto_region 1 with (fail)
  rw [← hW]
  clear hW
  refine wp_region_rgs 2 [some 20, some 7] [IsV (.bool true), IsV (.bool true)] [] (by decide) (by kernel_rfl) (by kernel_rfl) (by kernel_rfl) ?_ ?_ ?_ ?_
  · repeat' (first | exact trivial | exact IsV.stb _ | exact IsI.stb _ _ | exact IsB.stb _ | exact IsR.stb _ _ | exact IsMag.stb _ _ | exact IsPos.stb | apply IsT3.stb | apply IsT2.stb | apply And.intro)
  · exact (fun _ h => by cases h)
  · refine RgAll.cons (by { (with_reducible refine RgL.mk (by rfl) ?_); intro v a w' hE hd hf; skip; clear hd hf; intro K hK; go_simp; go_at_call 9; go_split_ands; (with_reducible refine Calls.mono (examples_f _ (ht.ext (S.ext.trans hE))) ?_); rintro e w2 ⟨x, rfl, e2, hx⟩; exact hK.out _ _ e2 hx (FreshIf.no rfl) }) ?_
    refine RgAll.cons (by { (with_reducible refine RgL.mk (by rfl) ?_); intro v a w' hE hd hf; have d0 : v 0 = .bool true := hd 0 (by kernel_rfl); have ev0 := hf.val 0 20 _ d0 (by kernel_rfl) (by kernel_rfl) (by kernel_rfl); clear d0; clear hd hf; intro K hK; go_simp; exact hK.out _ _ (Ext.refl _) rfl (FreshIf.no rfl) }) ?_
    exact RgAll.nil
  intro v W1 e1 hΦ _
  replace S := S.mono e1
  have v1 : v 1 = .bool true := hΦ 1 (by decide)
  simp only [layL, Act.put, List.setIfInBounds_toArray, List.set_cons_zero, List.set_cons_succ, Nat.reduceAdd]
  rw [v1]
  clear v1
  clear hΦ
  clear e1
  refine wpList_nil ?_
  go_upto_region 4 with (fail)
  have hl := hid S.lt; have hw := S.ext.size
  refine wp_region_rgs 3 [some 23, some 24, some 8] [IsR s1 x1, IsI 8 za, IsB W1] [2] (by decide) (by kernel_rfl) (by kernel_rfl) (by kernel_rfl) ?_ ?_ ?_ ?_
  · repeat' (first | exact trivial | exact IsV.stb _ | exact IsI.stb _ _ | exact IsB.stb _ | exact IsR.stb _ _ | exact IsMag.stb _ _ | exact IsPos.stb | apply IsT3.stb | apply IsT2.stb | apply And.intro)
  · intro i hi; simp only [List.mem_cons, List.not_mem_nil, or_false] at hi; subst hi; exact IsB.box _
  · refine RgAll.cons (by { (with_reducible refine RgL.mk (by rfl) ?_); intro v a w' hE hd hf; have ev0 := hf.lit 3 (.pointer (some ⟨w.heap.size, 0, none⟩)) (by kernel_rfl) (by kernel_rfl); obtain ⟨s8, a8, n8, c8, b8, h8⟩ := (S.mono hE).at 2 (w.heap.size) (IsR s1 x1) rfl; have L0 := b8.c0; have L1 := b8.c1; clear hd hf; intro K hK; go_simp; exact hK.out _ _ (Ext.refl _) h8 (FreshIf.no rfl) }) ?_
    refine RgAll.cons (by { (with_reducible refine RgL.mk (by rfl) ?_); intro v a w' hE hd hf; have d0 : (IsR s1 x1) (v 0) w' := hd 0 (by kernel_rfl); have ev0 := hf.val 0 23 _ rfl (by kernel_rfl) (by kernel_rfl) (by kernel_rfl); clear hd hf; intro K hK; go_simp; go_at_call 10; go_split_ands; (with_reducible refine Calls.mono (Calls.mono (Made_f d0 (by decide)) fun _ _ h => h.eqz Ha.out) ?_); rintro e w2 ⟨x, rfl, e2, hx⟩; exact hK.out _ _ e2 hx (FreshIf.no rfl) }) ?_
    refine RgAll.cons (by { (with_reducible refine RgL.mk (by rfl) ?_); intro v a w' hE hd hf; skip; clear hd hf; intro K hK; go_simp; refine hK.out _ _ ((Ext.refl _).alloc _) ⟨_, rfl, hE.size, Bx.new _ _ _ _ _⟩ FreshIf.yes }) ?_
    exact RgAll.nil
  intro v W2 e1 hΦ _
  replace S := S.mono e1
  obtain ⟨s24, a24, n24, c24, v1, h24⟩ := (hΦ 1 (by decide) : IsI 8 za (v 1) W2)
  obtain ⟨g8, v2, q2, b1⟩ := (hΦ 2 (by decide) : IsB W1 (v 2) W2)
  replace S := S.addN (Apart.old hl.out q2) (Nat.le_trans hw q2) b1
  clear b1
  simp only [layL, Act.put, List.setIfInBounds_toArray, List.set_cons_zero, List.set_cons_succ, Nat.reduceAdd]
  rw [v1, v2]
  clear v1 v2
  clear hΦ
  clear hl hw
  clear e1
  obtain ⟨s8, a8, n8, c8, b8, _⟩ := S.at 0 (g8) (IsI 0 0) rfl; have F1 := b8.c0; have F2 := b8.c1; have F3 := b8.f0; have F4 := b8.f1
  refine wpList_step fun K hK => ?_; go_simp; refine hK _ _ ?_; clear hK K
  clear F1 F2 F3 F4 b8
  obtain ⟨W3, hW, S2, G2, _⟩ := S.put 0 (g8) (IsI 0 0) (IsI 8 za) rfl s24 a24 n24 c24 (IsI.gstb _ _) ⟨_, _, _, _, rfl, h24⟩
  rw [← hW]; clear hW S
  have S : St w W3 [(g8, IsI 8 za), (w.heap.size + 1 + 1, IsR s3 x3), (w.heap.size + 1, IsR s2 x2), (w.heap.size, IsR s1 x1)] := S2; clear S2 G2
  clear h24
  refine wpList_nil ?_
  go_upto_region 5 with (fail)
  have hl := hid S.lt; have hw := S.ext.size
  refine wp_region_rgs 3 [some 25, some 26, some 9] [IsR s2 x2, IsI 8 zb, IsB W3] [2] (by decide) (by kernel_rfl) (by kernel_rfl) (by kernel_rfl) ?_ ?_ ?_ ?_
  · repeat' (first | exact trivial | exact IsV.stb _ | exact IsI.stb _ _ | exact IsB.stb _ | exact IsR.stb _ _ | exact IsMag.stb _ _ | exact IsPos.stb | apply IsT3.stb | apply IsT2.stb | apply And.intro)
  · intro i hi; simp only [List.mem_cons, List.not_mem_nil, or_false] at hi; subst hi; exact IsB.box _
  · refine RgAll.cons (by { (with_reducible refine RgL.mk (by rfl) ?_); intro v a w' hE hd hf; have ev0 := hf.lit 4 (.pointer (some ⟨w.heap.size + 1, 0, none⟩)) (by kernel_rfl) (by kernel_rfl); obtain ⟨s8, a8, n8, c8, b8, h8⟩ := (S.mono hE).at 2 (w.heap.size + 1) (IsR s2 x2) rfl; have L0 := b8.c0; have L1 := b8.c1; clear hd hf; intro K hK; go_simp; exact hK.out _ _ (Ext.refl _) h8 (FreshIf.no rfl) }) ?_
    refine RgAll.cons (by { (with_reducible refine RgL.mk (by rfl) ?_); intro v a w' hE hd hf; have d0 : (IsR s2 x2) (v 0) w' := hd 0 (by kernel_rfl); have ev0 := hf.val 0 25 _ rfl (by kernel_rfl) (by kernel_rfl) (by kernel_rfl); clear hd hf; intro K hK; go_simp; go_at_call 10; go_split_ands; (with_reducible refine Calls.mono (Calls.mono (Made_f d0 (by decide)) fun _ _ h => h.eqz Hb.out) ?_); rintro e w2 ⟨x, rfl, e2, hx⟩; exact hK.out _ _ e2 hx (FreshIf.no rfl) }) ?_
    refine RgAll.cons (by { (with_reducible refine RgL.mk (by rfl) ?_); intro v a w' hE hd hf; skip; clear hd hf; intro K hK; go_simp; refine hK.out _ _ ((Ext.refl _).alloc _) ⟨_, rfl, hE.size, Bx.new _ _ _ _ _⟩ FreshIf.yes }) ?_
    exact RgAll.nil
  intro v W4 e1 hΦ _
  replace S := S.mono e1
  obtain ⟨s26, a26, n26, c26, v1, h26⟩ := (hΦ 1 (by decide) : IsI 8 zb (v 1) W4)
  obtain ⟨g9, v2, q4, b3⟩ := (hΦ 2 (by decide) : IsB W3 (v 2) W4)
  replace S := S.addN (Apart.old hl.out q4) (Nat.le_trans hw q4) b3
  clear b3
  simp only [layL, Act.put, List.setIfInBounds_toArray, List.set_cons_zero, List.set_cons_succ, Nat.reduceAdd]
  rw [v1, v2]
  clear v1 v2
  clear hΦ
  clear hl hw
  clear e1
  obtain ⟨s8, a8, n8, c8, b8, _⟩ := S.at 0 (g9) (IsI 0 0) rfl; have F1 := b8.c0; have F2 := b8.c1; have F3 := b8.f0; have F4 := b8.f1
  refine wpList_step fun K hK => ?_; go_simp; refine hK _ _ ?_; clear hK K
  clear F1 F2 F3 F4 b8
  obtain ⟨W5, hW, S2, G2, _⟩ := S.put 0 (g9) (IsI 0 0) (IsI 8 zb) rfl s26 a26 n26 c26 (IsI.gstb _ _) ⟨_, _, _, _, rfl, h26⟩
  rw [← hW]; clear hW S
  have S : St w W5 [(g9, IsI 8 zb), (g8, IsI 8 za), (w.heap.size + 1 + 1, IsR s3 x3), (w.heap.size + 1, IsR s2 x2), (w.heap.size, IsR s1 x1)] := S2; clear S2 G2
  clear h26
  refine wpList_nil ?_
  go_upto_region 6 with (fail)
  have hl := hid S.lt; have hw := S.ext.size
  refine wp_region_rgs 3 [some 27, some 28, some 10] [IsR s3 x3, IsI 4 zc, IsB W5] [2] (by decide) (by kernel_rfl) (by kernel_rfl) (by kernel_rfl) ?_ ?_ ?_ ?_
  · repeat' (first | exact trivial | exact IsV.stb _ | exact IsI.stb _ _ | exact IsB.stb _ | exact IsR.stb _ _ | exact IsMag.stb _ _ | exact IsPos.stb | apply IsT3.stb | apply IsT2.stb | apply And.intro)
  · intro i hi; simp only [List.mem_cons, List.not_mem_nil, or_false] at hi; subst hi; exact IsB.box _
  · refine RgAll.cons (by { (with_reducible refine RgL.mk (by rfl) ?_); intro v a w' hE hd hf; have ev0 := hf.lit 5 (.pointer (some ⟨w.heap.size + 1 + 1, 0, none⟩)) (by kernel_rfl) (by kernel_rfl); obtain ⟨s8, a8, n8, c8, b8, h8⟩ := (S.mono hE).at 2 (w.heap.size + 1 + 1) (IsR s3 x3) rfl; have L0 := b8.c0; have L1 := b8.c1; clear hd hf; intro K hK; go_simp; exact hK.out _ _ (Ext.refl _) h8 (FreshIf.no rfl) }) ?_
    refine RgAll.cons (by { (with_reducible refine RgL.mk (by rfl) ?_); intro v a w' hE hd hf; have d0 : (IsR s3 x3) (v 0) w' := hd 0 (by kernel_rfl); have ev0 := hf.val 0 27 _ rfl (by kernel_rfl) (by kernel_rfl) (by kernel_rfl); clear hd hf; intro K hK; go_simp; go_at_call 10; go_split_ands; (with_reducible refine Calls.mono (Calls.mono (Made_f d0 (by decide)) fun _ _ h => h.eqz Hc.out) ?_); rintro e w2 ⟨x, rfl, e2, hx⟩; exact hK.out _ _ e2 hx (FreshIf.no rfl) }) ?_
    refine RgAll.cons (by { (with_reducible refine RgL.mk (by rfl) ?_); intro v a w' hE hd hf; skip; clear hd hf; intro K hK; go_simp; refine hK.out _ _ ((Ext.refl _).alloc _) ⟨_, rfl, hE.size, Bx.new _ _ _ _ _⟩ FreshIf.yes }) ?_
    exact RgAll.nil
  intro v W6 e1 hΦ _
  replace S := S.mono e1
  obtain ⟨s28, a28, n28, c28, v1, h28⟩ := (hΦ 1 (by decide) : IsI 4 zc (v 1) W6)
  obtain ⟨g10, v2, q6, b5⟩ := (hΦ 2 (by decide) : IsB W5 (v 2) W6)
  replace S := S.addN (Apart.old hl.out q6) (Nat.le_trans hw q6) b5
  clear b5
  simp only [layL, Act.put, List.setIfInBounds_toArray, List.set_cons_zero, List.set_cons_succ, Nat.reduceAdd]
  rw [v1, v2]
  clear v1 v2
  clear hΦ
  clear hl hw
  clear e1
  obtain ⟨s8, a8, n8, c8, b8, _⟩ := S.at 0 (g10) (IsI 0 0) rfl; have F1 := b8.c0; have F2 := b8.c1; have F3 := b8.f0; have F4 := b8.f1
  refine wpList_step fun K hK => ?_; go_simp; refine hK _ _ ?_; clear hK K
  clear F1 F2 F3 F4 b8
  obtain ⟨W7, hW, S2, G2, _⟩ := S.put 0 (g10) (IsI 0 0) (IsI 4 zc) rfl s28 a28 n28 c28 (IsI.gstb _ _) ⟨_, _, _, _, rfl, h28⟩
  rw [← hW]; clear hW S
  have S : St w W7 [(g10, IsI 4 zc), (g9, IsI 8 zb), (g8, IsI 8 za), (w.heap.size + 1 + 1, IsR s3 x3), (w.heap.size + 1, IsR s2 x2), (w.heap.size, IsR s1 x1)] := S2; clear S2 G2
  clear h28
  refine wpList_nil ?_
  go_upto_region 7 with (fail)
  have hl := hid S.lt; have hw := S.ext.size
  refine wp_region_rgs 10 [some 30, some 31, some 32, some 29, some 33, some 34, some 35, some 11, some 12, some 13] [IsI 8 za, IsI 8 zb, IsT3 (IsI 8 (((za.natAbs : Nat) : Int))) (IsI 2 za.sign) (IsI 0 0), IsT3 (IsI 8 (((za.natAbs : Nat) : Int))) (IsI 2 za.sign) (IsI 0 0), IsI 8 (((za.natAbs : Nat) : Int)), IsI 2 za.sign, IsI 0 0, IsB W7, IsB W7, IsB W7] [7, 8, 9] (by decide) (by kernel_rfl) (by kernel_rfl) (by kernel_rfl) ?_ ?_ ?_ ?_
  · repeat' (first | exact trivial | exact IsV.stb _ | exact IsI.stb _ _ | exact IsB.stb _ | exact IsR.stb _ _ | exact IsMag.stb _ _ | exact IsPos.stb | apply IsT3.stb | apply IsT2.stb | apply And.intro)
  · intro i hi; simp only [List.mem_cons, List.not_mem_nil, or_false] at hi; rcases hi with rfl | rfl | rfl <;> exact IsB.box _
  · refine RgAll.cons (by { (with_reducible refine RgL.mk (by rfl) ?_); intro v a w' hE hd hf; have ev0 := hf.lit 8 (.pointer (some ⟨g8, 0, none⟩)) (by kernel_rfl) (by kernel_rfl); obtain ⟨s8, a8, n8, c8, b8, h8⟩ := (S.mono hE).at 2 (g8) (IsI 8 za) rfl; have L0 := b8.c0; have L1 := b8.c1; clear hd hf; intro K hK; go_simp; exact hK.out _ _ (Ext.refl _) h8 (FreshIf.no rfl) }) ?_
    refine RgAll.cons (by { (with_reducible refine RgL.mk (by rfl) ?_); intro v a w' hE hd hf; have ev0 := hf.lit 9 (.pointer (some ⟨g9, 0, none⟩)) (by kernel_rfl) (by kernel_rfl); obtain ⟨s8, a8, n8, c8, b8, h8⟩ := (S.mono hE).at 1 (g9) (IsI 8 zb) rfl; have L0 := b8.c0; have L1 := b8.c1; clear hd hf; intro K hK; go_simp; exact hK.out _ _ (Ext.refl _) h8 (FreshIf.no rfl) }) ?_
    refine RgAll.cons (by { (with_reducible refine RgL.mk (by rfl) ?_); intro v a w' hE hd hf; have d0 : (IsI 8 za) (v 0) w' := hd 0 (by kernel_rfl); have ev0 := hf.val 0 30 _ rfl (by kernel_rfl) (by kernel_rfl) (by kernel_rfl); have d1 : (IsI 8 zb) (v 1) w' := hd 1 (by kernel_rfl); have ev1 := hf.val 1 31 _ rfl (by kernel_rfl) (by kernel_rfl) (by kernel_rfl); clear hd hf; intro K hK; go_simp; go_at_call 18; go_split_ands; (with_reducible refine Calls.mono (Bezout0_f d0 (by have hz := HZb.out; rw [hz] at d1; exact d1)) ?_); rintro e w2 ⟨x, rfl, e2, hx⟩; exact hK.out _ _ e2 hx (FreshIf.no rfl) }) ?_
    refine RgAll.cons (by { (with_reducible refine RgL.mk (by rfl) ?_); intro v a w' hE hd hf; have d0 : (IsT3 (IsI 8 (((za.natAbs : Nat) : Int))) (IsI 2 za.sign) (IsI 0 0)) (v 2) w' := hd 2 (by kernel_rfl); have ev0 := hf.val 2 32 _ rfl (by kernel_rfl) (by kernel_rfl) (by kernel_rfl); clear hd hf; intro K hK; go_simp; exact hK.out _ _ (Ext.refl _) d0 (FreshIf.no rfl) }) ?_
    refine RgAll.cons (by { (with_reducible refine RgL.mk (by rfl) ?_); intro v a w' hE hd hf; have d0 : (IsT3 (IsI 8 (((za.natAbs : Nat) : Int))) (IsI 2 za.sign) (IsI 0 0)) (v 3) w' := hd 3 (by kernel_rfl); obtain ⟨x0, x1, x2, z0, y0, y1, y2⟩ := d0; have ev0 := hf.val 3 29 _ z0 (by kernel_rfl) (by kernel_rfl) (by kernel_rfl); clear z0; clear hd hf; intro K hK; go_simp; exact hK.out _ _ (Ext.refl _) y0 (FreshIf.no rfl) }) ?_
    refine RgAll.cons (by { (with_reducible refine RgL.mk (by rfl) ?_); intro v a w' hE hd hf; have d0 : (IsT3 (IsI 8 (((za.natAbs : Nat) : Int))) (IsI 2 za.sign) (IsI 0 0)) (v 3) w' := hd 3 (by kernel_rfl); obtain ⟨x0, x1, x2, z0, y0, y1, y2⟩ := d0; have ev0 := hf.val 3 29 _ z0 (by kernel_rfl) (by kernel_rfl) (by kernel_rfl); clear z0; clear hd hf; intro K hK; go_simp; exact hK.out _ _ (Ext.refl _) y1 (FreshIf.no rfl) }) ?_
    refine RgAll.cons (by { (with_reducible refine RgL.mk (by rfl) ?_); intro v a w' hE hd hf; have d0 : (IsT3 (IsI 8 (((za.natAbs : Nat) : Int))) (IsI 2 za.sign) (IsI 0 0)) (v 3) w' := hd 3 (by kernel_rfl); obtain ⟨x0, x1, x2, z0, y0, y1, y2⟩ := d0; have ev0 := hf.val 3 29 _ z0 (by kernel_rfl) (by kernel_rfl) (by kernel_rfl); clear z0; clear hd hf; intro K hK; go_simp; exact hK.out _ _ (Ext.refl _) y2 (FreshIf.no rfl) }) ?_
    refine RgAll.cons (by { (with_reducible refine RgL.mk (by rfl) ?_); intro v a w' hE hd hf; skip; clear hd hf; intro K hK; go_simp; refine hK.out _ _ ((Ext.refl _).alloc _) ⟨_, rfl, hE.size, Bx.new _ _ _ _ _⟩ FreshIf.yes }) ?_
    refine RgAll.cons (by { (with_reducible refine RgL.mk (by rfl) ?_); intro v a w' hE hd hf; skip; clear hd hf; intro K hK; go_simp; refine hK.out _ _ ((Ext.refl _).alloc _) ⟨_, rfl, hE.size, Bx.new _ _ _ _ _⟩ FreshIf.yes }) ?_
    refine RgAll.cons (by { (with_reducible refine RgL.mk (by rfl) ?_); intro v a w' hE hd hf; skip; clear hd hf; intro K hK; go_simp; refine hK.out _ _ ((Ext.refl _).alloc _) ⟨_, rfl, hE.size, Bx.new _ _ _ _ _⟩ FreshIf.yes }) ?_
    exact RgAll.nil
  intro v W8 e1 hΦ hne
  replace S := S.mono e1
  obtain ⟨s33, a33, n33, c33, v4, h33⟩ := (hΦ 4 (by decide) : IsI 8 (((za.natAbs : Nat) : Int)) (v 4) W8)
  obtain ⟨s34, a34, n34, c34, v5, h34⟩ := (hΦ 5 (by decide) : IsI 2 za.sign (v 5) W8)
  obtain ⟨s35, a35, n35, c35, v6, h35⟩ := (hΦ 6 (by decide) : IsI 0 0 (v 6) W8)
  obtain ⟨g11, v7, q8, b7⟩ := (hΦ 7 (by decide) : IsB W7 (v 7) W8)
  replace S := S.addN (Apart.old hl.out q8) (Nat.le_trans hw q8) b7
  clear b7
  obtain ⟨g12, v8, q10, b9⟩ := (hΦ 8 (by decide) : IsB W7 (v 8) W8)
  replace S := S.addN (Apart.cons (fun h => hne 7 8 (by decide) (by decide) (by decide) (by decide) (by decide) (by rw [v7, v8, h])) (Apart.old hl.out q10)) (Nat.le_trans hw q10) b9
  clear b9
  obtain ⟨g13, v9, q12, b11⟩ := (hΦ 9 (by decide) : IsB W7 (v 9) W8)
  replace S := S.addN (Apart.cons (fun h => hne 8 9 (by decide) (by decide) (by decide) (by decide) (by decide) (by rw [v8, v9, h])) (Apart.cons (fun h => hne 7 9 (by decide) (by decide) (by decide) (by decide) (by decide) (by rw [v7, v9, h])) (Apart.old hl.out q12))) (Nat.le_trans hw q12) b11
  clear b11
  clear hne
  simp only [layL, Act.put, List.setIfInBounds_toArray, List.set_cons_zero, List.set_cons_succ, Nat.reduceAdd]
  rw [v4, v5, v6, v7, v8, v9]
  clear v4 v5 v6 v7 v8 v9
  clear hΦ
  clear hl hw
  clear e1
  obtain ⟨s8, a8, n8, c8, b8, _⟩ := S.at 2 (g11) (IsI 0 0) rfl; have F1 := b8.c0; have F2 := b8.c1; have F3 := b8.f0; have F4 := b8.f1
  refine wpList_step fun K hK => ?_; go_simp; refine hK _ _ ?_; clear hK K
  clear F1 F2 F3 F4 b8
  obtain ⟨W9, hW, S2, G2, _⟩ := S.put 2 (g11) (IsI 0 0) (IsI 8 (((za.natAbs : Nat) : Int))) rfl s33 a33 n33 c33 (IsI.gstb _ _) ⟨_, _, _, _, rfl, h33⟩
  rw [← hW]; clear hW S
  replace h34 := h34.gr G2
  replace h35 := h35.gr G2
  have S : St w W9 [(g13, IsI 0 0), (g12, IsI 0 0), (g11, IsI 8 (((za.natAbs : Nat) : Int))), (g10, IsI 4 zc), (g9, IsI 8 zb), (g8, IsI 8 za), (w.heap.size + 1 + 1, IsR s3 x3), (w.heap.size + 1, IsR s2 x2), (w.heap.size, IsR s1 x1)] := S2; clear S2 G2
  clear h33
  obtain ⟨s8, a8, n8, c8, b8, _⟩ := S.at 1 (g12) (IsI 0 0) rfl; have F1 := b8.c0; have F2 := b8.c1; have F3 := b8.f0; have F4 := b8.f1
  refine wpList_step fun K hK => ?_; go_simp; refine hK _ _ ?_; clear hK K
  clear F1 F2 F3 F4 b8
  obtain ⟨W10, hW, S2, G2, _⟩ := S.put 1 (g12) (IsI 0 0) (IsI 2 za.sign) rfl s34 a34 n34 c34 (IsI.gstb _ _) ⟨_, _, _, _, rfl, h34⟩
  rw [← hW]; clear hW S
  replace h35 := h35.gr G2
  have S : St w W10 [(g13, IsI 0 0), (g12, IsI 2 za.sign), (g11, IsI 8 (((za.natAbs : Nat) : Int))), (g10, IsI 4 zc), (g9, IsI 8 zb), (g8, IsI 8 za), (w.heap.size + 1 + 1, IsR s3 x3), (w.heap.size + 1, IsR s2 x2), (w.heap.size, IsR s1 x1)] := S2; clear S2 G2
  clear h34
  obtain ⟨s8, a8, n8, c8, b8, _⟩ := S.at 0 (g13) (IsI 0 0) rfl; have F1 := b8.c0; have F2 := b8.c1; have F3 := b8.f0; have F4 := b8.f1
  refine wpList_step fun K hK => ?_; go_simp; refine hK _ _ ?_; clear hK K
  clear F1 F2 F3 F4 b8
  obtain ⟨W11, hW, S2, G2, _⟩ := S.put 0 (g13) (IsI 0 0) (IsI 0 0) rfl s35 a35 n35 c35 (IsI.gstb _ _) ⟨_, _, _, _, rfl, h35⟩
  rw [← hW]; clear hW S
  have S : St w W11 [(g13, IsI 0 0), (g12, IsI 2 za.sign), (g11, IsI 8 (((za.natAbs : Nat) : Int))), (g10, IsI 4 zc), (g9, IsI 8 zb), (g8, IsI 8 za), (w.heap.size + 1 + 1, IsR s3 x3), (w.heap.size + 1, IsR s2 x2), (w.heap.size, IsR s1 x1)] := S2; clear S2 G2
  clear h35
  refine wpList_nil ?_
  go_upto_region 8 with (fail)
  refine wp_region_rg 31 [some 36, some 37, some 38, some 39, some 40, some 41, some 42, some 43, some 44, some 45, some 46, some 47, some 48, some 49, some 50, some 51, some 52, some 53, some 54, some 55, some 56, some 57, some 58, some 59, some 60, some 61, some 62, some 63, some 64, some 65, some 66] [IsI 2 za.sign, IsI 8 za, IsI 10 (za.sign * za), IsI 0 0, IsI 8 zb, IsI 8 (0 * zb), IsI 11 ((za.sign * za) + (0 * zb)), IsI 8 (((za.natAbs : Nat) : Int)), IsV (.bool true), IsV (.bool false), IsV (.bool false), IsI 8 (((za.natAbs : Nat) : Int)), IsI 8 za, IsI 8 zb, IsI 8 (((za.natAbs : Nat) : Int)), IsV (.bool true), IsV (.bool false), IsV (.bool false), IsV (.bool false), IsI 8 zb, IsI 8 za, IsI 8 (((za.natAbs : Nat) : Int)), IsI 8 (((za.natAbs : Nat) : Int)), IsV (.bool true), IsV (.bool false), IsV (.bool false), IsV (.bool false), IsI 8 (((za.natAbs : Nat) : Int)), IsV (.int .i64 0), IsV (.bool false), IsV (.bool false)] [] 0 (by kernel_rfl) (by decide) (by kernel_rfl) (by kernel_rfl) (by kernel_rfl) (by kernel_rfl) (by kernel_rfl) ?_ ?_ ?_ ?_
  · repeat' (first | exact trivial | exact IsV.stb _ | exact IsI.stb _ _ | exact IsB.stb _ | exact IsR.stb _ _ | exact IsMag.stb _ _ | exact IsPos.stb | apply IsT3.stb | apply IsT2.stb | apply And.intro)
  · exact (fun _ h => by cases h)
  · refine RgAll.cons (by { (with_reducible refine RgL.mk (by rfl) ?_); intro v a w' hE hd hf; have ev0 := hf.lit 12 (.pointer (some ⟨g12, 0, none⟩)) (by kernel_rfl) (by kernel_rfl); obtain ⟨s8, a8, n8, c8, b8, h8⟩ := (S.mono hE).at 1 (g12) (IsI 2 za.sign) rfl; have L0 := b8.c0; have L1 := b8.c1; clear hd hf; intro K hK; go_simp; exact hK.out _ _ (Ext.refl _) h8 (FreshIf.no rfl) }) ?_
    refine RgAll.cons (by { (with_reducible refine RgL.mk (by rfl) ?_); intro v a w' hE hd hf; have ev0 := hf.lit 8 (.pointer (some ⟨g8, 0, none⟩)) (by kernel_rfl) (by kernel_rfl); obtain ⟨s8, a8, n8, c8, b8, h8⟩ := (S.mono hE).at 5 (g8) (IsI 8 za) rfl; have L0 := b8.c0; have L1 := b8.c1; clear hd hf; intro K hK; go_simp; exact hK.out _ _ (Ext.refl _) h8 (FreshIf.no rfl) }) ?_
    refine RgAll.cons (by { (with_reducible refine RgL.mk (by rfl) ?_); intro v a w' hE hd hf; have d0 : (IsI 2 za.sign) (v 0) w' := hd 0 (by kernel_rfl); have ev0 := hf.val 0 36 _ rfl (by kernel_rfl) (by kernel_rfl) (by kernel_rfl); have d1 : (IsI 8 za) (v 1) w' := hd 1 (by kernel_rfl); have ev1 := hf.val 1 37 _ rfl (by kernel_rfl) (by kernel_rfl) (by kernel_rfl); clear hd hf; intro K hK; go_simp; go_at_call 13; go_split_ands; (with_reducible refine Calls.mono (Mul_f d0 d1 (by decide) (by decide)) ?_); rintro e w2 ⟨x, rfl, e2, hx⟩; exact hK.out _ _ e2 hx (FreshIf.no rfl) }) ?_
    refine RgAll.cons (by { (with_reducible refine RgL.mk (by rfl) ?_); intro v a w' hE hd hf; have ev0 := hf.lit 13 (.pointer (some ⟨g13, 0, none⟩)) (by kernel_rfl) (by kernel_rfl); obtain ⟨s8, a8, n8, c8, b8, h8⟩ := (S.mono hE).at 0 (g13) (IsI 0 0) rfl; have L0 := b8.c0; have L1 := b8.c1; clear hd hf; intro K hK; go_simp; exact hK.out _ _ (Ext.refl _) h8 (FreshIf.no rfl) }) ?_
    refine RgAll.cons (by { (with_reducible refine RgL.mk (by rfl) ?_); intro v a w' hE hd hf; have ev0 := hf.lit 9 (.pointer (some ⟨g9, 0, none⟩)) (by kernel_rfl) (by kernel_rfl); obtain ⟨s8, a8, n8, c8, b8, h8⟩ := (S.mono hE).at 4 (g9) (IsI 8 zb) rfl; have L0 := b8.c0; have L1 := b8.c1; clear hd hf; intro K hK; go_simp; exact hK.out _ _ (Ext.refl _) h8 (FreshIf.no rfl) }) ?_
    refine RgAll.cons (by { (with_reducible refine RgL.mk (by rfl) ?_); intro v a w' hE hd hf; have d0 : (IsI 0 0) (v 3) w' := hd 3 (by kernel_rfl); have ev0 := hf.val 3 39 _ rfl (by kernel_rfl) (by kernel_rfl) (by kernel_rfl); have d1 : (IsI 8 zb) (v 4) w' := hd 4 (by kernel_rfl); have ev1 := hf.val 4 40 _ rfl (by kernel_rfl) (by kernel_rfl) (by kernel_rfl); clear hd hf; intro K hK; go_simp; go_at_call 13; go_split_ands; (with_reducible refine Calls.mono (Mul_f d0 d1 (by decide) (by decide)) ?_); rintro e w2 ⟨x, rfl, e2, hx⟩; exact hK.out _ _ e2 hx (FreshIf.no rfl) }) ?_
    refine RgAll.cons (by { (with_reducible refine RgL.mk (by rfl) ?_); intro v a w' hE hd hf; have d0 : (IsI 10 (za.sign * za)) (v 2) w' := hd 2 (by kernel_rfl); have ev0 := hf.val 2 38 _ rfl (by kernel_rfl) (by kernel_rfl) (by kernel_rfl); have d1 : (IsI 8 (0 * zb)) (v 5) w' := hd 5 (by kernel_rfl); have ev1 := hf.val 5 41 _ rfl (by kernel_rfl) (by kernel_rfl) (by kernel_rfl); clear hd hf; intro K hK; go_simp; go_at_call 12; go_split_ands; (with_reducible refine Calls.mono (Add_f d0 d1 (by decide) (by decide)) ?_); rintro e w2 ⟨x, rfl, e2, hx⟩; exact hK.out _ _ e2 hx (FreshIf.no rfl) }) ?_
    refine RgAll.cons (by { (with_reducible refine RgL.mk (by rfl) ?_); intro v a w' hE hd hf; have ev0 := hf.lit 11 (.pointer (some ⟨g11, 0, none⟩)) (by kernel_rfl) (by kernel_rfl); obtain ⟨s8, a8, n8, c8, b8, h8⟩ := (S.mono hE).at 2 (g11) (IsI 8 (((za.natAbs : Nat) : Int))) rfl; have L0 := b8.c0; have L1 := b8.c1; clear hd hf; intro K hK; go_simp; exact hK.out _ _ (Ext.refl _) h8 (FreshIf.no rfl) }) ?_
    refine RgAll.cons (by { (with_reducible refine RgL.mk (by rfl) ?_); intro v a w' hE hd hf; have d0 : (IsI 11 ((za.sign * za) + (0 * zb))) (v 6) w' := hd 6 (by kernel_rfl); have ev0 := hf.val 6 42 _ rfl (by kernel_rfl) (by kernel_rfl) (by kernel_rfl); have d1 : (IsI 8 (((za.natAbs : Nat) : Int))) (v 7) w' := hd 7 (by kernel_rfl); have ev1 := hf.val 7 43 _ rfl (by kernel_rfl) (by kernel_rfl) (by kernel_rfl); clear hd hf; intro K hK; go_simp; go_at_call 14; go_split_ands; (with_reducible refine Calls.mono (Same_t d0 d1 (H1.out) (by decide)) ?_); rintro e w2 ⟨x, rfl, e2, hx⟩; exact hK.out _ _ e2 hx (FreshIf.no rfl) }) ?_
    refine RgAll.cons (by { (with_reducible refine RgL.mk (by rfl) ?_); intro v a w' hE hd hf; have d0 : v 8 = .bool true := hd 8 (by kernel_rfl); have ev0 := hf.val 8 44 _ d0 (by kernel_rfl) (by kernel_rfl) (by kernel_rfl); clear d0; clear hd hf; intro K hK; go_simp; exact hK.out _ _ (Ext.refl _) rfl (FreshIf.no rfl) }) ?_
    refine RgAll.cons (by { (with_reducible refine RgL.mk (by rfl) ?_); intro v a w' hE hd hf; have d0 : v 9 = .bool false := hd 9 (by kernel_rfl); have ev0 := hf.val 9 45 _ d0 (by kernel_rfl) (by kernel_rfl) (by kernel_rfl); clear d0; clear hd hf; intro K hK; go_simp; exact hK.out _ _ (Ext.refl _) rfl (FreshIf.no rfl) }) ?_
    refine RgAll.cons (by { (with_reducible refine RgL.mkG 10 46 false (by rfl) (by kernel_rfl) (by kernel_rfl) (by kernel_rfl) (by kernel_rfl) (by kernel_rfl) ?_ ?_); (focus (intro _ _ h; exact h)); intro v a w' hE hd hf; have ev0 := hf.lit 11 (.pointer (some ⟨g11, 0, none⟩)) (by kernel_rfl) (by kernel_rfl); obtain ⟨s8, a8, n8, c8, b8, h8⟩ := (S.mono hE).at 2 (g11) (IsI 8 (((za.natAbs : Nat) : Int))) rfl; have L0 := b8.c0; have L1 := b8.c1; clear hd hf; intro K hK; go_simp; exact hK.out _ _ (Ext.refl _) h8 (FreshIf.no rfl) }) ?_
    refine RgAll.cons (by { (with_reducible refine RgL.mkG 10 46 false (by rfl) (by kernel_rfl) (by kernel_rfl) (by kernel_rfl) (by kernel_rfl) (by kernel_rfl) ?_ ?_); (focus (intro _ _ h; exact h)); intro v a w' hE hd hf; have ev0 := hf.lit 8 (.pointer (some ⟨g8, 0, none⟩)) (by kernel_rfl) (by kernel_rfl); obtain ⟨s8, a8, n8, c8, b8, h8⟩ := (S.mono hE).at 5 (g8) (IsI 8 za) rfl; have L0 := b8.c0; have L1 := b8.c1; clear hd hf; intro K hK; go_simp; exact hK.out _ _ (Ext.refl _) h8 (FreshIf.no rfl) }) ?_
    refine RgAll.cons (by { (with_reducible refine RgL.mkG 10 46 false (by rfl) (by kernel_rfl) (by kernel_rfl) (by kernel_rfl) (by kernel_rfl) (by kernel_rfl) ?_ ?_); (focus (intro _ _ h; exact h)); intro v a w' hE hd hf; have ev0 := hf.lit 9 (.pointer (some ⟨g9, 0, none⟩)) (by kernel_rfl) (by kernel_rfl); obtain ⟨s8, a8, n8, c8, b8, h8⟩ := (S.mono hE).at 4 (g9) (IsI 8 zb) rfl; have L0 := b8.c0; have L1 := b8.c1; clear hd hf; intro K hK; go_simp; exact hK.out _ _ (Ext.refl _) h8 (FreshIf.no rfl) }) ?_
    refine RgAll.cons (by { (with_reducible refine RgL.mkG 10 46 false (by rfl) (by kernel_rfl) (by kernel_rfl) (by kernel_rfl) (by kernel_rfl) (by kernel_rfl) ?_ ?_); (focus (intro _ _ h; exact h)); intro v a w' hE hd hf; have d0 : (IsI 8 za) (v 12) w' := hd 12 (by kernel_rfl); have ev0 := hf.val 12 48 _ rfl (by kernel_rfl) (by kernel_rfl) (by kernel_rfl); have d1 : (IsI 8 zb) (v 13) w' := hd 13 (by kernel_rfl); have ev1 := hf.val 13 49 _ rfl (by kernel_rfl) (by kernel_rfl) (by kernel_rfl); clear hd hf; intro K hK; go_simp; go_at_call 19; go_split_ands; (with_reducible refine Calls.mono (Calls.mono (Gcd_f d0 d1 (by decide) (by decide)) fun _ _ h => h.eqz (HG.out)) ?_); rintro e w2 ⟨x, rfl, e2, hx⟩; exact hK.out _ _ e2 hx (FreshIf.no rfl) }) ?_
    refine RgAll.cons (by { (with_reducible refine RgL.mkG 10 46 false (by rfl) (by kernel_rfl) (by kernel_rfl) (by kernel_rfl) (by kernel_rfl) (by kernel_rfl) ?_ ?_); (focus (intro _ _ h; exact h)); intro v a w' hE hd hf; have d0 : (IsI 8 (((za.natAbs : Nat) : Int))) (v 11) w' := hd 11 (by kernel_rfl); have ev0 := hf.val 11 47 _ rfl (by kernel_rfl) (by kernel_rfl) (by kernel_rfl); have d1 : (IsI 8 (((za.natAbs : Nat) : Int))) (v 14) w' := hd 14 (by kernel_rfl); have ev1 := hf.val 14 50 _ rfl (by kernel_rfl) (by kernel_rfl) (by kernel_rfl); clear hd hf; intro K hK; go_simp; go_at_call 14; go_split_ands; (with_reducible refine Calls.mono (Same_t d0 d1 (rfl) (by decide)) ?_); rintro e w2 ⟨x, rfl, e2, hx⟩; exact hK.out _ _ e2 hx (FreshIf.no rfl) }) ?_
    refine RgAll.cons (by { (with_reducible refine RgL.mkG 10 46 false (by rfl) (by kernel_rfl) (by kernel_rfl) (by kernel_rfl) (by kernel_rfl) (by kernel_rfl) ?_ ?_); (focus (intro _ _ h; exact h)); intro v a w' hE hd hf; have d0 : v 15 = .bool true := hd 15 (by kernel_rfl); have ev0 := hf.val 15 51 _ d0 (by kernel_rfl) (by kernel_rfl) (by kernel_rfl); clear d0; clear hd hf; intro K hK; go_simp; exact hK.out _ _ (Ext.refl _) rfl (FreshIf.no rfl) }) ?_
    refine RgAll.cons (by { (with_reducible refine RgL.mk (by rfl) ?_); intro v a w' hE hd hf; have d0 : v 10 = .bool false := hd 10 (by kernel_rfl); have ev0 := hf.val 10 46 _ d0 (by kernel_rfl) (by kernel_rfl) (by kernel_rfl); clear d0; have d1 : v 16 = .bool false := hd 16 (by kernel_rfl); have ev1 := hf.val 16 52 _ d1 (by kernel_rfl) (by kernel_rfl) (by kernel_rfl); clear d1; clear hd hf; intro K hK; go_simp; exact hK.out _ _ (Ext.refl _) rfl (FreshIf.no rfl) }) ?_
    refine RgAll.cons (by { (with_reducible refine RgL.mk (by rfl) ?_); intro v a w' hE hd hf; have d0 : v 17 = .bool false := hd 17 (by kernel_rfl); have ev0 := hf.val 17 53 _ d0 (by kernel_rfl) (by kernel_rfl) (by kernel_rfl); clear d0; clear hd hf; intro K hK; go_simp; exact hK.out _ _ (Ext.refl _) rfl (FreshIf.no rfl) }) ?_
    refine RgAll.cons (by { (with_reducible refine RgL.mkG 18 54 false (by rfl) (by kernel_rfl) (by kernel_rfl) (by kernel_rfl) (by kernel_rfl) (by kernel_rfl) ?_ ?_); (focus (intro _ _ h; exact h)); intro v a w' hE hd hf; have ev0 := hf.lit 9 (.pointer (some ⟨g9, 0, none⟩)) (by kernel_rfl) (by kernel_rfl); obtain ⟨s8, a8, n8, c8, b8, h8⟩ := (S.mono hE).at 4 (g9) (IsI 8 zb) rfl; have L0 := b8.c0; have L1 := b8.c1; clear hd hf; intro K hK; go_simp; exact hK.out _ _ (Ext.refl _) h8 (FreshIf.no rfl) }) ?_
    refine RgAll.cons (by { (with_reducible refine RgL.mkG 18 54 false (by rfl) (by kernel_rfl) (by kernel_rfl) (by kernel_rfl) (by kernel_rfl) (by kernel_rfl) ?_ ?_); (focus (intro _ _ h; exact h)); intro v a w' hE hd hf; have ev0 := hf.lit 8 (.pointer (some ⟨g8, 0, none⟩)) (by kernel_rfl) (by kernel_rfl); obtain ⟨s8, a8, n8, c8, b8, h8⟩ := (S.mono hE).at 5 (g8) (IsI 8 za) rfl; have L0 := b8.c0; have L1 := b8.c1; clear hd hf; intro K hK; go_simp; exact hK.out _ _ (Ext.refl _) h8 (FreshIf.no rfl) }) ?_
    refine RgAll.cons (by { (with_reducible refine RgL.mkG 18 54 false (by rfl) (by kernel_rfl) (by kernel_rfl) (by kernel_rfl) (by kernel_rfl) (by kernel_rfl) ?_ ?_); (focus (intro _ _ h; exact h)); intro v a w' hE hd hf; have d0 : (IsI 8 zb) (v 19) w' := hd 19 (by kernel_rfl); have ev0 := hf.val 19 55 _ rfl (by kernel_rfl) (by kernel_rfl) (by kernel_rfl); have d1 : (IsI 8 za) (v 20) w' := hd 20 (by kernel_rfl); have ev1 := hf.val 20 56 _ rfl (by kernel_rfl) (by kernel_rfl) (by kernel_rfl); clear hd hf; intro K hK; go_simp; go_at_call 19; go_split_ands; (with_reducible refine Calls.mono (Calls.mono (Gcd_f d0 d1 (by decide) (by decide)) fun _ _ h => h.eqz (HG2.out)) ?_); rintro e w2 ⟨x, rfl, e2, hx⟩; exact hK.out _ _ e2 hx (FreshIf.no rfl) }) ?_
    refine RgAll.cons (by { (with_reducible refine RgL.mkG 18 54 false (by rfl) (by kernel_rfl) (by kernel_rfl) (by kernel_rfl) (by kernel_rfl) (by kernel_rfl) ?_ ?_); (focus (intro _ _ h; exact h)); intro v a w' hE hd hf; have ev0 := hf.lit 11 (.pointer (some ⟨g11, 0, none⟩)) (by kernel_rfl) (by kernel_rfl); obtain ⟨s8, a8, n8, c8, b8, h8⟩ := (S.mono hE).at 2 (g11) (IsI 8 (((za.natAbs : Nat) : Int))) rfl; have L0 := b8.c0; have L1 := b8.c1; clear hd hf; intro K hK; go_simp; exact hK.out _ _ (Ext.refl _) h8 (FreshIf.no rfl) }) ?_
    refine RgAll.cons (by { (with_reducible refine RgL.mkG 18 54 false (by rfl) (by kernel_rfl) (by kernel_rfl) (by kernel_rfl) (by kernel_rfl) (by kernel_rfl) ?_ ?_); (focus (intro _ _ h; exact h)); intro v a w' hE hd hf; have d0 : (IsI 8 (((za.natAbs : Nat) : Int))) (v 21) w' := hd 21 (by kernel_rfl); have ev0 := hf.val 21 57 _ rfl (by kernel_rfl) (by kernel_rfl) (by kernel_rfl); have d1 : (IsI 8 (((za.natAbs : Nat) : Int))) (v 22) w' := hd 22 (by kernel_rfl); have ev1 := hf.val 22 58 _ rfl (by kernel_rfl) (by kernel_rfl) (by kernel_rfl); clear hd hf; intro K hK; go_simp; go_at_call 14; go_split_ands; (with_reducible refine Calls.mono (Same_t d0 d1 (rfl) (by decide)) ?_); rintro e w2 ⟨x, rfl, e2, hx⟩; exact hK.out _ _ e2 hx (FreshIf.no rfl) }) ?_
    refine RgAll.cons (by { (with_reducible refine RgL.mkG 18 54 false (by rfl) (by kernel_rfl) (by kernel_rfl) (by kernel_rfl) (by kernel_rfl) (by kernel_rfl) ?_ ?_); (focus (intro _ _ h; exact h)); intro v a w' hE hd hf; have d0 : v 23 = .bool true := hd 23 (by kernel_rfl); have ev0 := hf.val 23 59 _ d0 (by kernel_rfl) (by kernel_rfl) (by kernel_rfl); clear d0; clear hd hf; intro K hK; go_simp; exact hK.out _ _ (Ext.refl _) rfl (FreshIf.no rfl) }) ?_
    refine RgAll.cons (by { (with_reducible refine RgL.mk (by rfl) ?_); intro v a w' hE hd hf; have d0 : v 18 = .bool false := hd 18 (by kernel_rfl); have ev0 := hf.val 18 54 _ d0 (by kernel_rfl) (by kernel_rfl) (by kernel_rfl); clear d0; have d1 : v 24 = .bool false := hd 24 (by kernel_rfl); have ev1 := hf.val 24 60 _ d1 (by kernel_rfl) (by kernel_rfl) (by kernel_rfl); clear d1; clear hd hf; intro K hK; go_simp; exact hK.out _ _ (Ext.refl _) rfl (FreshIf.no rfl) }) ?_
    refine RgAll.cons (by { (with_reducible refine RgL.mk (by rfl) ?_); intro v a w' hE hd hf; have d0 : v 25 = .bool false := hd 25 (by kernel_rfl); have ev0 := hf.val 25 61 _ d0 (by kernel_rfl) (by kernel_rfl) (by kernel_rfl); clear d0; clear hd hf; intro K hK; go_simp; exact hK.out _ _ (Ext.refl _) rfl (FreshIf.no rfl) }) ?_
    refine RgAll.cons (by { (with_reducible refine RgL.mkG 26 62 false (by rfl) (by kernel_rfl) (by kernel_rfl) (by kernel_rfl) (by kernel_rfl) (by kernel_rfl) ?_ ?_); (focus (intro _ _ h; exact h)); intro v a w' hE hd hf; have ev0 := hf.lit 11 (.pointer (some ⟨g11, 0, none⟩)) (by kernel_rfl) (by kernel_rfl); obtain ⟨s8, a8, n8, c8, b8, h8⟩ := (S.mono hE).at 2 (g11) (IsI 8 (((za.natAbs : Nat) : Int))) rfl; have L0 := b8.c0; have L1 := b8.c1; clear hd hf; intro K hK; go_simp; exact hK.out _ _ (Ext.refl _) h8 (FreshIf.no rfl) }) ?_
    refine RgAll.cons (by { (with_reducible refine RgL.mkG 26 62 false (by rfl) (by kernel_rfl) (by kernel_rfl) (by kernel_rfl) (by kernel_rfl) (by kernel_rfl) ?_ ?_); (focus (intro _ _ h; exact h)); intro v a w' hE hd hf; have d0 : (IsI 8 (((za.natAbs : Nat) : Int))) (v 27) w' := hd 27 (by kernel_rfl); have ev0 := hf.val 27 63 _ rfl (by kernel_rfl) (by kernel_rfl) (by kernel_rfl); clear hd hf; intro K hK; go_simp; go_at_call 15; go_split_ands; (with_reducible refine Calls.mono (Calls.mono (Sign_f d0) fun _ _ h => h.int (HSg.out)) ?_); rintro e w2 ⟨x, rfl, e2, hx⟩; exact hK.out _ _ e2 hx (FreshIf.no rfl) }) ?_
    refine RgAll.cons (by { (with_reducible refine RgL.mkG 26 62 false (by rfl) (by kernel_rfl) (by kernel_rfl) (by kernel_rfl) (by kernel_rfl) (by kernel_rfl) ?_ ?_); (focus (intro _ _ h; exact h)); intro v a w' hE hd hf; have d0 : v 28 = .int .i64 0 := hd 28 (by kernel_rfl); have ev0 := hf.val 28 64 _ d0 (by kernel_rfl) (by kernel_rfl) (by kernel_rfl); clear d0; clear hd hf; intro K hK; go_simp; exact hK.out _ _ (Ext.refl _) rfl (FreshIf.no rfl) }) ?_
    refine RgAll.cons (by { (with_reducible refine RgL.mk (by rfl) ?_); intro v a w' hE hd hf; have d0 : v 26 = .bool false := hd 26 (by kernel_rfl); have ev0 := hf.val 26 62 _ d0 (by kernel_rfl) (by kernel_rfl) (by kernel_rfl); clear d0; have d1 : v 29 = .bool false := hd 29 (by kernel_rfl); have ev1 := hf.val 29 65 _ d1 (by kernel_rfl) (by kernel_rfl) (by kernel_rfl); clear d1; clear hd hf; intro K hK; go_simp; exact hK.out _ _ (Ext.refl _) rfl (FreshIf.no rfl) }) ?_
    exact RgAll.nil
  intro v W12 e1 hΦ _
  replace S := S.mono e1
  have v30 : v 30 = .bool false := hΦ 30 (by decide)
  simp only [layL, Act.put, List.setIfInBounds_toArray, List.set_cons_zero, List.set_cons_succ, Nat.reduceAdd]
  rw [v30]
  clear v30
  clear hΦ
  clear e1
  refine wpAny_done (by kernel_rfl) ?_ _
  go_upto_region 10 with (fail)
  refine wp_region_rgs 4 [some 67, some 68, some 69, some 70] [IsV (.pointer (some ⟨g11, 1, none⟩)), IsMag 8 (((za.natAbs : Nat) : Int)), IsV (.int .i64 0), IsV (.bool true)] [] (by decide) (by kernel_rfl) (by kernel_rfl) (by kernel_rfl) ?_ ?_ ?_ ?_
  · repeat' (first | exact trivial | exact IsV.stb _ | exact IsI.stb _ _ | exact IsB.stb _ | exact IsR.stb _ _ | exact IsMag.stb _ _ | exact IsPos.stb | apply IsT3.stb | apply IsT2.stb | apply And.intro)
  · exact (fun _ h => by cases h)
  · refine RgAll.cons (by { (with_reducible refine RgL.mk (by rfl) ?_); intro v a w' hE hd hf; have ev0 := hf.lit 11 (.pointer (some ⟨g11, 0, none⟩)) (by kernel_rfl) (by kernel_rfl); clear hd hf; intro K hK; go_simp; exact hK.out _ _ (Ext.refl _) rfl (FreshIf.no rfl) }) ?_
    refine RgAll.cons (by { (with_reducible refine RgL.mk (by rfl) ?_); intro v a w' hE hd hf; have d0 : v 0 = .pointer (some ⟨g11, 1, none⟩) := hd 0 (by kernel_rfl); have ev0 := hf.val 0 67 _ d0 (by kernel_rfl) (by kernel_rfl) (by kernel_rfl); clear d0; obtain ⟨s8, a8, n8, c8, b8, h8⟩ := (S.mono hE).at 2 (g11) (IsI 8 (((za.natAbs : Nat) : Int))) rfl; have L0 := b8.c0; have L1 := b8.c1; obtain ⟨s9, a9, n9, c9, k9, h9⟩ := h8; injection k9 with k9; simp only [Array.mk.injEq, List.cons.injEq, Value.bool.injEq, Value.slice.injEq, and_true] at k9; obtain ⟨rfl, rfl, rfl, rfl⟩ := k9; clear hd hf; intro K hK; go_simp; exact hK.out _ _ (Ext.refl _) ⟨_, _, _, _, rfl, h9⟩ (FreshIf.no rfl) }) ?_
    refine RgAll.cons (by { (with_reducible refine RgL.mk (by rfl) ?_); intro v a w' hE hd hf; have d0 : (IsMag 8 (((za.natAbs : Nat) : Int))) (v 1) w' := hd 1 (by kernel_rfl); obtain ⟨s9, a9, n9, c9, z0, h9⟩ := d0; have ev0 := hf.val 1 68 _ z0 (by kernel_rfl) (by kernel_rfl) (by kernel_rfl); clear z0; obtain rfl : n9 = 0 := h9.zero_iff.1 (Hg0.out); clear hd hf; intro K hK; go_simp; exact hK.out _ _ (Ext.refl _) rfl (FreshIf.no rfl) }) ?_
    refine RgAll.cons (by { (with_reducible refine RgL.mk (by rfl) ?_); intro v a w' hE hd hf; have d0 : v 2 = .int .i64 0 := hd 2 (by kernel_rfl); have ev0 := hf.val 2 69 _ d0 (by kernel_rfl) (by kernel_rfl) (by kernel_rfl); clear d0; clear hd hf; intro K hK; go_simp; exact hK.out _ _ (Ext.refl _) rfl (FreshIf.no rfl) }) ?_
    exact RgAll.nil
  intro v W13 e1 hΦ _
  replace S := S.mono e1
  have v3 : v 3 = .bool true := hΦ 3 (by decide)
  simp only [layL, Act.put, List.setIfInBounds_toArray, List.set_cons_zero, List.set_cons_succ, Nat.reduceAdd]
  rw [v3]
  clear v3
  clear hΦ
  clear e1
  refine wpList_nil ?_
  go_upto_region 11 with (fail)
  refine wp_region_rgs 12 [some 71, some 72, some 73, some 74, some 75, some 76, some 77, some 78, some 79, some 80, some 81, some 6] [IsV (.bool true), IsV (.bool true), IsV (.pointer (some ⟨g8, 1, none⟩)), IsMag 8 za, IsV (.int .i64 0), IsV (.pointer (some ⟨g9, 1, none⟩)), IsMag 8 zb, IsV (.int .i64 0), IsV (.int .i64 0), IsV (.bool true), IsV (.bool true), IsV (.bool true)] [] (by decide) (by kernel_rfl) (by kernel_rfl) (by kernel_rfl) ?_ ?_ ?_ ?_
  · repeat' (first | exact trivial | exact IsV.stb _ | exact IsI.stb _ _ | exact IsB.stb _ | exact IsR.stb _ _ | exact IsMag.stb _ _ | exact IsPos.stb | apply IsT3.stb | apply IsT2.stb | apply And.intro)
  · exact (fun _ h => by cases h)
  · refine RgAll.cons (by { (with_reducible refine RgL.mk (by rfl) ?_); intro v a w' hE hd hf; have ev0 := hf.lit 7 (.bool true) (by kernel_rfl) (by kernel_rfl); clear hd hf; intro K hK; go_simp; exact hK.out _ _ (Ext.refl _) rfl (FreshIf.no rfl) }) ?_
    refine RgAll.cons (by { (with_reducible refine RgL.mk (by rfl) ?_); intro v a w' hE hd hf; have d0 : v 0 = .bool true := hd 0 (by kernel_rfl); have ev0 := hf.val 0 71 _ d0 (by kernel_rfl) (by kernel_rfl) (by kernel_rfl); clear d0; clear hd hf; intro K hK; go_simp; exact hK.out _ _ (Ext.refl _) rfl (FreshIf.no rfl) }) ?_
    refine RgAll.cons (by { (with_reducible refine RgL.mkG 1 72 true (by rfl) (by kernel_rfl) (by kernel_rfl) (by kernel_rfl) (by kernel_rfl) (by kernel_rfl) ?_ ?_); (focus (intro _ _ h; exact h)); intro v a w' hE hd hf; have ev0 := hf.lit 8 (.pointer (some ⟨g8, 0, none⟩)) (by kernel_rfl) (by kernel_rfl); clear hd hf; intro K hK; go_simp; exact hK.out _ _ (Ext.refl _) rfl (FreshIf.no rfl) }) ?_
    refine RgAll.cons (by { (with_reducible refine RgL.mkG 1 72 true (by rfl) (by kernel_rfl) (by kernel_rfl) (by kernel_rfl) (by kernel_rfl) (by kernel_rfl) ?_ ?_); (focus (intro _ _ h; exact h)); intro v a w' hE hd hf; have d0 : v 2 = .pointer (some ⟨g8, 1, none⟩) := hd 2 (by kernel_rfl); have ev0 := hf.val 2 73 _ d0 (by kernel_rfl) (by kernel_rfl) (by kernel_rfl); clear d0; obtain ⟨s8, a8, n8, c8, b8, h8⟩ := (S.mono hE).at 5 (g8) (IsI 8 za) rfl; have L0 := b8.c0; have L1 := b8.c1; obtain ⟨s9, a9, n9, c9, k9, h9⟩ := h8; injection k9 with k9; simp only [Array.mk.injEq, List.cons.injEq, Value.bool.injEq, Value.slice.injEq, and_true] at k9; obtain ⟨rfl, rfl, rfl, rfl⟩ := k9; clear hd hf; intro K hK; go_simp; exact hK.out _ _ (Ext.refl _) ⟨_, _, _, _, rfl, h9⟩ (FreshIf.no rfl) }) ?_
    refine RgAll.cons (by { (with_reducible refine RgL.mkG 1 72 true (by rfl) (by kernel_rfl) (by kernel_rfl) (by kernel_rfl) (by kernel_rfl) (by kernel_rfl) ?_ ?_); (focus (intro _ _ h; exact h)); intro v a w' hE hd hf; have d0 : (IsMag 8 za) (v 3) w' := hd 3 (by kernel_rfl); obtain ⟨s9, a9, n9, c9, z0, h9⟩ := d0; have ev0 := hf.val 3 74 _ z0 (by kernel_rfl) (by kernel_rfl) (by kernel_rfl); clear z0; obtain rfl : n9 = 0 := h9.zero_iff.1 (HZa.out); clear hd hf; intro K hK; go_simp; exact hK.out _ _ (Ext.refl _) rfl (FreshIf.no rfl) }) ?_
    refine RgAll.cons (by { (with_reducible refine RgL.mkG 1 72 true (by rfl) (by kernel_rfl) (by kernel_rfl) (by kernel_rfl) (by kernel_rfl) (by kernel_rfl) ?_ ?_); (focus (intro _ _ h; exact h)); intro v a w' hE hd hf; have ev0 := hf.lit 9 (.pointer (some ⟨g9, 0, none⟩)) (by kernel_rfl) (by kernel_rfl); clear hd hf; intro K hK; go_simp; exact hK.out _ _ (Ext.refl _) rfl (FreshIf.no rfl) }) ?_
    refine RgAll.cons (by { (with_reducible refine RgL.mkG 1 72 true (by rfl) (by kernel_rfl) (by kernel_rfl) (by kernel_rfl) (by kernel_rfl) (by kernel_rfl) ?_ ?_); (focus (intro _ _ h; exact h)); intro v a w' hE hd hf; have d0 : v 5 = .pointer (some ⟨g9, 1, none⟩) := hd 5 (by kernel_rfl); have ev0 := hf.val 5 76 _ d0 (by kernel_rfl) (by kernel_rfl) (by kernel_rfl); clear d0; obtain ⟨s8, a8, n8, c8, b8, h8⟩ := (S.mono hE).at 4 (g9) (IsI 8 zb) rfl; have L0 := b8.c0; have L1 := b8.c1; obtain ⟨s9, a9, n9, c9, k9, h9⟩ := h8; injection k9 with k9; simp only [Array.mk.injEq, List.cons.injEq, Value.bool.injEq, Value.slice.injEq, and_true] at k9; obtain ⟨rfl, rfl, rfl, rfl⟩ := k9; clear hd hf; intro K hK; go_simp; exact hK.out _ _ (Ext.refl _) ⟨_, _, _, _, rfl, h9⟩ (FreshIf.no rfl) }) ?_
    refine RgAll.cons (by { (with_reducible refine RgL.mkG 1 72 true (by rfl) (by kernel_rfl) (by kernel_rfl) (by kernel_rfl) (by kernel_rfl) (by kernel_rfl) ?_ ?_); (focus (intro _ _ h; exact h)); intro v a w' hE hd hf; have d0 : (IsMag 8 zb) (v 6) w' := hd 6 (by kernel_rfl); obtain ⟨s9, a9, n9, c9, z0, h9⟩ := d0; have ev0 := hf.val 6 77 _ z0 (by kernel_rfl) (by kernel_rfl) (by kernel_rfl); clear z0; obtain rfl : n9 = 0 := h9.zero_iff.1 (HZb.out); clear hd hf; intro K hK; go_simp; exact hK.out _ _ (Ext.refl _) rfl (FreshIf.no rfl) }) ?_
    refine RgAll.cons (by { (with_reducible refine RgL.mkG 1 72 true (by rfl) (by kernel_rfl) (by kernel_rfl) (by kernel_rfl) (by kernel_rfl) (by kernel_rfl) ?_ ?_); (focus (intro _ _ h; exact h)); intro v a w' hE hd hf; have d0 : v 4 = .int .i64 0 := hd 4 (by kernel_rfl); have ev0 := hf.val 4 75 _ d0 (by kernel_rfl) (by kernel_rfl) (by kernel_rfl); clear d0; have d1 : v 7 = .int .i64 0 := hd 7 (by kernel_rfl); have ev1 := hf.val 7 78 _ d1 (by kernel_rfl) (by kernel_rfl) (by kernel_rfl); clear d1; clear hd hf; intro K hK; go_simp; exact hK.out _ _ (Ext.refl _) rfl (FreshIf.no rfl) }) ?_
    refine RgAll.cons (by { (with_reducible refine RgL.mkG 1 72 true (by rfl) (by kernel_rfl) (by kernel_rfl) (by kernel_rfl) (by kernel_rfl) (by kernel_rfl) ?_ ?_); (focus (intro _ _ h; exact h)); intro v a w' hE hd hf; have d0 : v 8 = .int .i64 0 := hd 8 (by kernel_rfl); have ev0 := hf.val 8 79 _ d0 (by kernel_rfl) (by kernel_rfl) (by kernel_rfl); clear d0; clear hd hf; intro K hK; go_simp; exact hK.out _ _ (Ext.refl _) rfl (FreshIf.no rfl) }) ?_
    refine RgAll.cons (by { (with_reducible refine RgL.mk (by rfl) ?_); intro v a w' hE hd hf; have d0 : v 1 = .bool true := hd 1 (by kernel_rfl); have ev0 := hf.val 1 72 _ d0 (by kernel_rfl) (by kernel_rfl) (by kernel_rfl); clear d0; have d1 : v 9 = .bool true := hd 9 (by kernel_rfl); have ev1 := hf.val 9 80 _ d1 (by kernel_rfl) (by kernel_rfl) (by kernel_rfl); clear d1; clear hd hf; intro K hK; go_simp; exact hK.out _ _ (Ext.refl _) rfl (FreshIf.no rfl) }) ?_
    refine RgAll.cons (by { (with_reducible refine RgL.mk (by rfl) ?_); intro v a w' hE hd hf; have d0 : v 10 = .bool true := hd 10 (by kernel_rfl); have ev0 := hf.val 10 81 _ d0 (by kernel_rfl) (by kernel_rfl) (by kernel_rfl); clear d0; clear hd hf; intro K hK; go_simp; exact hK.out _ _ (Ext.refl _) rfl (FreshIf.no rfl) }) ?_
    exact RgAll.nil
  intro v W14 e1 hΦ _
  replace S := S.mono e1
  have v11 : v 11 = .bool true := hΦ 11 (by decide)
  simp only [layL, Act.put, List.setIfInBounds_toArray, List.set_cons_zero, List.set_cons_succ, Nat.reduceAdd]
  rw [v11]
  clear v11
  clear hΦ
  clear e1
  refine wpList_nil ?_
  go_wp2_with fail
  exact bodyPost_ret (v := .bool true) (by simp [results, Tryd.results4, go_sem]) rfl (⟨_, rfl, S.ext, rfl⟩)

theorem Common_c (w : World) (s1 s2 s3 : Bool) (a1 a2 a3 : Option Addr) (n1 n2 n3 c1 c2 c3 : Nat) (x1 x2 x3 : List Nat) (h1 : Wd w a1 n1 c1 x1) (h2 : Wd w a2 n2 c2 x2) (h3 : Wd w a3 n3 c3 x3) (ht : Tab w) :
    Calls Tryd.prog 4 #[.agg #[.bool s1, .slice a1 n1 c1], .agg #[.bool s2, .slice a2 n2 c2], .agg #[.bool s3, .slice a3 n3 c3]] w (Ret w (IsV (.bool true))) := by
  by_cases hz : rawZ s2 x2 8 = 0
  · by_cases hz2 : rawZ s1 x1 8 = 0
    · exact Common_C w s1 s2 s3 a1 a2 a3 n1 n2 n3 c1 c2 c3 x1 x2 x3 h1 h2 h3 ht _ _ _ rfl rfl rfl hz hz2
    · exact Common_B w s1 s2 s3 a1 a2 a3 n1 n2 n3 c1 c2 c3 x1 x2 x3 h1 h2 h3 ht _ _ _ rfl rfl rfl hz hz2
  · exact Common_A w s1 s2 s3 a1 a2 a3 n1 n2 n3 c1 c2 c3 x1 x2 x3 h1 h2 h3 ht _ _ _ rfl rfl rfl hz
end Go.Proofs.YtpflfagjkmeeiaaDoor
namespace Go.Proofs.YtpflfagjkmeeiaaDoor
open Go Go.RowKit Go.ChangeShapes Go.WideShapes Go.ChangeAt

set_option maxRecDepth 100000 in
theorem integerCommon_lifted (os : Os) (started : os.Started) (H : Type) (enc : TypeId × Value → H) :
    ReturnsInHanded {} Tryd.checked os 4 .any (fun w args => (Rows.integerCommonSpec.pre enc Tryd.prog Tryd.f4 [] false w args ∧ laidMetH Tryd.prog laid3 w) ∧ sizedMet enc Tryd.prog Tryd.f4 (OpenSpec.ofChange Rows.integerCommonSpec) false w args)
      (Rows.integerCommonSpec.post enc Tryd.prog Tryd.f4 false true false false) := by
  refine returnsInHanded_of_change_and (C := Tryd.checked) (X := fun w _ => laidMetH Tryd.prog laid3 w) (fun _ _ _ hh h => h.of_heap hh) own started (by kernel_rfl) Tryd.func4
    (ChangeSpec.witness_shaped (enc := enc) (C := Tryd.checked) (os := os) (X := fun w _ => laidMetH Tryd.prog laid3 w) false (World.doorLaid Tryd.prog 2000 os) #[.agg #[.bool false, .slice none 0 0], .agg #[.bool false, .slice none 0 0], .agg #[.bool false, .slice none 0 0]] 8 rfl (World.shaped_of_RefB (by kernel_rfl) (by kernel_rfl)) (by kernel_rfl) (by kernel_rfl) (by kernel_rfl) (door_met os _)) ?_
  intro W base args ds gs before hval0 hW _ _ hL _
  have hval : ∀ (j : Nat) t v, Tryd.f4.params[j]? = some t → args[j]? = some v → Value.okWide Tryd.prog W .any base t v := hval0
  have hW' := hW
  obtain ⟨p, q, hA0, hV, rfl, hfz, hnd⟩ := hW
  have hA : DataW.TrodAll enc Tryd.prog W 0 (fun _ => true) true Tryd.f4.params.toList args.toList ds p := hA0
  rw [Tryd.params4] at hA hval
  obtain ⟨v1, v2, v3, d1, d2, d3, p1, p2, p3, rfl, rfl, rfl, k1, k2, k3⟩ := trodAll_three hA
  obtain ⟨rfl, rfl⟩ := trodVars_none hV
  obtain ⟨s1, a1, n1, c1, x1, rfl, w1, r1⟩ := raw_open (hval 0 24 v1 rfl rfl) k1
  obtain ⟨s2, a2, n2, c2, x2, rfl, w2, r2⟩ := raw_open (hval 1 24 v2 rfl rfl) k2
  obtain ⟨s3, a3, n3, c3, x3, rfl, w3, r3⟩ := raw_open (hval 2 24 v3 rfl rfl) k3
  clear hA0 hval0
  refine (Common_c W s1 s2 s3 a1 a2 a3 n1 n2 n3 c1 c2 c3 x1 x2 x3 w1 w2 w3 (tab_of_laid hL)).mono fun e W' ⟨x, he, hb, hx⟩ => ?_
  have hx : x = .bool true := hx
  subst he; subst hx
  refine ⟨_, rfl, post_of_below (pa := p1 ++ (p2 ++ p3)) (pv := []) hW' (fun _ _ _ => trodAll_mk1 (shut_bool Tryd.underlying4 true)) (fun sp hsp => ?_) (fun _ _ => rfl) (by simp) hb (ok_one (by kernel_rfl) rfl (okWide_bool_mk Tryd.underlying4 _))⟩
  rw [Tryd.params4]
  exact trodAll_mk3 (r1 W' sp hb fun q hq => hsp q (by simp [hq])) (r2 W' sp hb fun q hq => hsp q (by simp [hq])) (r3 W' sp hb fun q hq => hsp q (by simp [hq]))

theorem integerCommon_row : Rows.IntegerCommonSaid :=
  OpenClaim.holds_of_wide 4 Tryd.f4 rfl rfl rfl rfl rfl rfl rfl ⟨rfl, rfl, rfl, rfl, rfl⟩ rfl rfl rfl rfl rfl (by kernel_rfl) Tryd.func4 (by kernel_rfl)
    (of_decide_eq_true (by kernel_rfl)) (by unfold Func.isWrapper; first | (rw [if_pos (by decide +kernel)]; kernel_rfl) | (rw [if_neg (by decide +kernel)]; exact ⟨rfl, rfl⟩))
    (fun os started H enc _ => integerCommon_lifted os started H enc)

set_option maxRecDepth 100000 in
/-- The tied card. -/
theorem integerCommon_holds : Rows.IntegerCommonCardSaid :=
  Claim7.holds_tied_plain_at .later [] [.data, .data, .data] true Rows.integerCommonCard.stood.harness false
    integerCommon_row (fun _ h => by cases h) (by kernel_rfl) (fun _ h => by cases h) integerCommon_row_tie rfl ⟨rfl, rfl⟩ (by kernel_rfl) rfl
    (fun f fn hf hfn => by
      obtain rfl : f = 4 := Option.some.inj ((show Tryd.prog.funcNamed "algorist/algoristlaw01.IntegerCommon" = some 4 by kernel_rfl).symm.trans hf) |>.symm
      obtain rfl : fn = Tryd.f4 := (Option.some.inj (Tryd.func4.symm.trans hfn)).symm
      refine ⟨by kernel_rfl, fun j t ht => ?_⟩
      rw [Tryd.params4] at ht
      have h3 : t = 24 := by
        rcases j with _ | _ | _ | j
        · simpa using ht.symm
        · simpa using ht.symm
        · simpa using ht.symm
        · simp at ht
      subst h3
      exact (show Tryd.prog.wantsStandIn 24 = false by kernel_rfl))
    (by kernel_rfl)
#print axioms integerCommon_holds
end Go.Proofs.YtpflfagjkmeeiaaDoor
