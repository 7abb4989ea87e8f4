/-
  The statement IntegerPowers: for every description of an integer and all bytes the law answers true, and the arguments read behind the call as they read before. The listed package variables hold what the program's text lays (the card ties them).
-/
import Derived.Test.YtpflfagjkmeeiaaDoorEx
import Derived.Test.YtpflfagjkmeeiaaDoorRead
import Derived.Test.YtpflfagjkmeeiaaDoorTie
import Derived.Test.YtpflfagjkmeeiaaDoorCards
import Derived.SevenTiedAt
namespace Go.Proofs.YtpflfagjkmeeiaaDoor
open Go Go.RowKit

theorem pow_small (z : Int) (n : Nat) (hz : z.natAbs < 4294967296 ^ 3) (hn : n ≤ 24) : ¬ (1 < bitLen z.natAbs ∧ (4096 : Int) ≤ ((bitLen z.natAbs : Nat) - 1 : Int) * n) ∧ bitLen (z ^ n).natAbs ≤ 4096 := by
  have h1 := bitLen_le _ _ hz
  constructor
  · rintro ⟨_, h2⟩
    have h3 : ((bitLen z.natAbs : Nat) - 1 : Int) * n ≤ 95 * n := Int.mul_le_mul_of_nonneg_right (by omega) (by omega)
    omega
  · have h4 : (z ^ n).natAbs < 4294967296 ^ (3 * n + 1) := by
      rw [Int.natAbs_pow]
      have h5 : z.natAbs ^ n ≤ (4294967296 ^ 3) ^ n := Nat.pow_le_pow_left (by omega) n
      rw [← Nat.pow_mul] at h5
      exact Nat.lt_of_le_of_lt h5 (Nat.pow_lt_pow_right (by decide) (by omega))
    have := bitLen_le _ _ h4
    omega
theorem Pow_g {k1 : Nat} {z1 : Int} {x : Value} {w : World} (hx : IsI k1 z1 x w) (l1 : k1 ≤ 268435456) (n : Nat) (m : Int) (hm : m = (n : Int)) (h4 : n ≤ 4096) (h : ¬ (1 < bitLen z1.natAbs ∧ (4096 : Int) ≤ ((bitLen z1.natAbs : Nat) - 1 : Int) * n) ∧ bitLen (z1 ^ n).natAbs ≤ 4096) :
    Calls Tryd.prog 20 #[x, .int .i64 m] w (Ret w (IsT2 (IsI 128 (z1 ^ n)) (IsV (.int .i64 0)))) := by
  subst hm; exact Pow_f hx l1 n h4 h.1 h.2
theorem Root_g {k1 : Nat} {z1 : Int} {x : Value} {w : World} (hx : IsI k1 z1 x w) (l1 : k1 ≤ 1048576) (h0 : 0 ≤ z1) (k : Nat) (m : Int) (hm : m = (k : Int)) (hk : 1 ≤ k) (hhi : k ≤ 9223372036854775807) (r : Nat) (hr : IsRoot z1.natAbs k r) :
    Calls Tryd.prog 21 #[x, .int .i64 m] w (Ret w (IsT2 (IsI k1 (r : Int)) (IsV (.int .i64 0)))) := by
  subst hm; exact Root_f hx l1 h0 k hk hhi r hr

set_option maxRecDepth 100000 in
set_option maxHeartbeats 8000000 in
theorem Powers_0 (w : World) (s1 : Bool) (a1 : Option Addr) (n1 c1 : Nat) (x1 : List Nat) (nn kk : Int) (h1 : Wd w a1 n1 c1 x1) (ht : Tab w) (hn0 : 0 ≤ nn) (hk0 : 0 ≤ kk) (za : Int) (bb ii jj : Nat) (ha : rawZ s1 x1 3 = za) (hb : za.natAbs = bb) (hb3 : bb < 4294967296 ^ 3) (hi : nn % 13 = (ii : Int)) (hj : kk % 13 = (jj : Int)) (hi2 : ii ≤ 12) (hj2 : jj ≤ 12) (hz : bb = 0) :
    Calls Tryd.prog 5 #[.agg #[.bool s1, .slice a1 n1 c1], .int .u8 nn, .int .u8 kk] w (Ret w (IsV (.bool true))) := by
  have Ha := hid ha
  have HA3 := hid (show za.natAbs < 4294967296 ^ 3 by rw [hb]; exact hb3)
  have HB3 := hid (show ((bb : Nat) : Int).natAbs < 4294967296 ^ 3 by rw [Int.natAbs_natCast]; exact hb3)
  have HBB := hid (show ((za.natAbs : Nat) : Int) = (bb : Int) by rw [hb])
  have HM := hid (show nn % 13 = (ii : Int) ∧ nn.tmod 13 = (ii : Int) ∧ kk % 13 = (jj : Int) ∧ kk.tmod 13 = (jj : Int) from ⟨hi, by rw [Int.tmod_eq_emod_of_nonneg hn0]; exact hi, hj, by rw [Int.tmod_eq_emod_of_nonneg hk0]; exact hj⟩)
  have HW := hid (show IntKind.i64.wrap ((ii : Int) + (jj : Int)) = (ii : Int) + (jj : Int) ∧ IntKind.i64.wrap (1 + (jj : Int)) = 1 + (jj : Int) from ⟨by simp only [IntKind.wrap_i64]; omega, by simp only [IntKind.wrap_i64]; omega⟩)
  have HP := hid (show za ^ ii * za ^ jj = za ^ (ii + jj) from (Int.pow_add za ii jj).symm)
  have HS0 := hid (show 0 ≤ (bb : Int) ^ (1 + jj) from Int.pow_nonneg (by omega))
  have HR := hid (show IsRoot ((bb : Int) ^ (1 + jj)).natAbs (1 + jj) bb by rw [Int.natAbs_pow, Int.natAbs_natCast]; exact ⟨Nat.le_refl _, Nat.pow_lt_pow_left (by omega) (by omega)⟩)
  have HZ := hid (show (bb : Int) = 0 by omega)
  clear ha hb hb3 hi hj hz
  obtain ⟨W, hW, S⟩ : ∃ W, W = w.alloc (.cells #[.bool s1, .slice a1 n1 c1] 24) ∧ St w W [(w.heap.size, IsR s1 x1)] := ⟨_, rfl, ((St.start w).new' (w.heap.size) (by simp) s1 a1 n1 c1 24 (IsR s1 x1) (IsR.gstb _ _) ⟨_, _, _, rfl, h1⟩)⟩
  clear h1
  go_enter Tryd.func5, Tryd.ntmps5
  go_upto_region 1 with (fail)
  rw [← hW]
  clear hW
  refine wp_region_rgs 2 [some 26, some 7] [IsV (.bool true), IsV (.bool true)] [] (by decide) (by kernel_rfl) (by kernel_rfl) (by kernel_rfl) ?_ ?_ ?_ ?_
  · repeat' (first | exact trivial | exact IsV.stb _ | exact IsI.stb _ _ | exact IsB.stb _ | exact IsR.stb _ _ | exact IsMag.stb _ _ | exact IsPos.stb | apply IsT3.stb | apply IsT2.stb | apply And.intro)
  · exact (fun _ h => by cases h)
  · refine RgAll.cons (by { (with_reducible refine RgL.mk (by rfl) ?_); intro v a w' hE hd hf; skip; clear hd hf; intro K hK; go_simp; go_at_call 9; go_split_ands; (with_reducible refine Calls.mono (examples_f _ (ht.ext (S.ext.trans hE))) ?_); rintro e w2 ⟨x, rfl, e2, hx⟩; exact hK.out _ _ e2 hx (FreshIf.no rfl) }) ?_
    refine RgAll.cons (by { (with_reducible refine RgL.mk (by rfl) ?_); intro v a w' hE hd hf; have d0 : v 0 = .bool true := hd 0 (by kernel_rfl); have ev0 := hf.val 0 26 _ d0 (by kernel_rfl) (by kernel_rfl) (by kernel_rfl); clear d0; clear hd hf; intro K hK; go_simp; exact hK.out _ _ (Ext.refl _) rfl (FreshIf.no rfl) }) ?_
    exact RgAll.nil
  intro v W1 e1 hΦ _
  replace S := S.mono e1
  have v1 : v 1 = .bool true := hΦ 1 (by decide)
  simp only [layL, Act.put, List.setIfInBounds_toArray, List.set_cons_zero, List.set_cons_succ, Nat.reduceAdd]
  rw [v1]
  clear v1
  clear hΦ
  clear e1
  refine wpList_nil ?_
  go_upto_region 4 with (fail)
  have hl := hid S.lt; have hw := S.ext.size
  refine wp_region_rgs 3 [some 29, some 30, some 8] [IsR s1 x1, IsI 3 za, IsB W1] [2] (by decide) (by kernel_rfl) (by kernel_rfl) (by kernel_rfl) ?_ ?_ ?_ ?_
  · repeat' (first | exact trivial | exact IsV.stb _ | exact IsI.stb _ _ | exact IsB.stb _ | exact IsR.stb _ _ | exact IsMag.stb _ _ | exact IsPos.stb | apply IsT3.stb | apply IsT2.stb | apply And.intro)
  · intro i hi; simp only [List.mem_cons, List.not_mem_nil, or_false] at hi; subst hi; exact IsB.box _
  · refine RgAll.cons (by { (with_reducible refine RgL.mk (by rfl) ?_); intro v a w' hE hd hf; have ev0 := hf.lit 3 (.pointer (some ⟨w.heap.size, 0, none⟩)) (by kernel_rfl) (by kernel_rfl); obtain ⟨s8, a8, n8, c8, b8, h8⟩ := (S.mono hE).at 0 (w.heap.size) (IsR s1 x1) rfl; have L0 := b8.c0; have L1 := b8.c1; clear hd hf; intro K hK; go_simp; exact hK.out _ _ (Ext.refl _) h8 (FreshIf.no rfl) }) ?_
    refine RgAll.cons (by { (with_reducible refine RgL.mk (by rfl) ?_); intro v a w' hE hd hf; have d0 : (IsR s1 x1) (v 0) w' := hd 0 (by kernel_rfl); have ev0 := hf.val 0 29 _ rfl (by kernel_rfl) (by kernel_rfl) (by kernel_rfl); clear hd hf; intro K hK; go_simp; go_at_call 10; go_split_ands; (with_reducible refine Calls.mono (Calls.mono (Made_f d0 (by decide)) fun _ _ h => h.eqz Ha.out) ?_); rintro e w2 ⟨x, rfl, e2, hx⟩; exact hK.out _ _ e2 hx (FreshIf.no rfl) }) ?_
    refine RgAll.cons (by { (with_reducible refine RgL.mk (by rfl) ?_); intro v a w' hE hd hf; skip; clear hd hf; intro K hK; go_simp; refine hK.out _ _ ((Ext.refl _).alloc _) ⟨_, rfl, hE.size, Bx.new _ _ _ _ _⟩ FreshIf.yes }) ?_
    exact RgAll.nil
  intro v W2 e1 hΦ _
  replace S := S.mono e1
  obtain ⟨s30, a30, n30, c30, v1, h30⟩ := (hΦ 1 (by decide) : IsI 3 za (v 1) W2)
  obtain ⟨g8, v2, q2, b1⟩ := (hΦ 2 (by decide) : IsB W1 (v 2) W2)
  replace S := S.addN (Apart.old hl.out q2) (Nat.le_trans hw q2) b1
  clear b1
  simp only [layL, Act.put, List.setIfInBounds_toArray, List.set_cons_zero, List.set_cons_succ, Nat.reduceAdd]
  rw [v1, v2]
  clear v1 v2
  clear hΦ
  clear hl hw
  clear e1
  obtain ⟨s8, a8, n8, c8, b8, _⟩ := S.at 0 (g8) (IsI 0 0) rfl; have F1 := b8.c0; have F2 := b8.c1; have F3 := b8.f0; have F4 := b8.f1
  refine wpList_step fun K hK => ?_; go_simp; refine hK _ _ ?_; clear hK K
  clear F1 F2 F3 F4 b8
  obtain ⟨W3, hW, S2, G2, _⟩ := S.put 0 (g8) (IsI 0 0) (IsI 3 za) rfl s30 a30 n30 c30 (IsI.gstb _ _) ⟨_, _, _, _, rfl, h30⟩
  rw [← hW]; clear hW S
  have S : St w W3 [(g8, IsI 3 za), (w.heap.size, IsR s1 x1)] := S2; clear S2 G2
  clear h30
  refine wpList_nil ?_
  have hm1 := HM.out.1; have hm2 := HM.out.2.1; have hm3 := HM.out.2.2.1; have hm4 := HM.out.2.2.2
  go_upto_region 7 with (fail)
  clear hm1 hm2 hm3 hm4
  have hl := hid S.lt; have hw := S.ext.size
  refine wp_region_rgs 7 [some 38, some 39, some 40, some 37, some 41, some 42, some 11] [IsI 3 za, IsV (.int .i64 (ii : Int)), IsT2 (IsI 128 (za ^ (ii))) (IsV (.int .i64 0)), IsT2 (IsI 128 (za ^ (ii))) (IsV (.int .i64 0)), IsI 128 (za ^ (ii)), IsV (.int .i64 0), IsB W3] [6] (by decide) (by kernel_rfl) (by kernel_rfl) (by kernel_rfl) ?_ ?_ ?_ ?_
  · repeat' (first | exact trivial | exact IsV.stb _ | exact IsI.stb _ _ | exact IsB.stb _ | exact IsR.stb _ _ | exact IsMag.stb _ _ | exact IsPos.stb | apply IsT3.stb | apply IsT2.stb | apply And.intro)
  · intro i hi; simp only [List.mem_cons, List.not_mem_nil, or_false] at hi; subst hi; exact IsB.box _
  · refine RgAll.cons (by { (with_reducible refine RgL.mk (by rfl) ?_); intro v a w' hE hd hf; have ev0 := hf.lit 8 (.pointer (some ⟨g8, 0, none⟩)) (by kernel_rfl) (by kernel_rfl); obtain ⟨s8, a8, n8, c8, b8, h8⟩ := (S.mono hE).at 0 (g8) (IsI 3 za) rfl; have L0 := b8.c0; have L1 := b8.c1; clear hd hf; intro K hK; go_simp; exact hK.out _ _ (Ext.refl _) h8 (FreshIf.no rfl) }) ?_
    refine RgAll.cons (by { (with_reducible refine RgL.mk (by rfl) ?_); intro v a w' hE hd hf; have ev0 := hf.lit 9 (.int .i64 (ii : Int)) (by kernel_rfl) (by kernel_rfl); clear hd hf; intro K hK; go_simp; exact hK.out _ _ (Ext.refl _) rfl (FreshIf.no rfl) }) ?_
    refine RgAll.cons (by { (with_reducible refine RgL.mk (by rfl) ?_); intro v a w' hE hd hf; have d0 : (IsI 3 za) (v 0) w' := hd 0 (by kernel_rfl); have ev0 := hf.val 0 38 _ rfl (by kernel_rfl) (by kernel_rfl) (by kernel_rfl); have d1 : v 1 = .int .i64 (ii : Int) := hd 1 (by kernel_rfl); have ev1 := hf.val 1 39 _ d1 (by kernel_rfl) (by kernel_rfl) (by kernel_rfl); clear d1; clear hd hf; intro K hK; go_simp; go_at_call 20; go_split_ands; (with_reducible refine Calls.mono (Pow_g d0 (by decide) (ii) (ii : Int) (by omega) (by omega) (pow_small _ _ HA3.out (by omega))) ?_); rintro e w2 ⟨x, rfl, e2, hx⟩; exact hK.out _ _ e2 hx (FreshIf.no rfl) }) ?_
    refine RgAll.cons (by { (with_reducible refine RgL.mk (by rfl) ?_); intro v a w' hE hd hf; have d0 : (IsT2 (IsI 128 (za ^ (ii))) (IsV (.int .i64 0))) (v 2) w' := hd 2 (by kernel_rfl); have ev0 := hf.val 2 40 _ rfl (by kernel_rfl) (by kernel_rfl) (by kernel_rfl); clear hd hf; intro K hK; go_simp; exact hK.out _ _ (Ext.refl _) d0 (FreshIf.no rfl) }) ?_
    refine RgAll.cons (by { (with_reducible refine RgL.mk (by rfl) ?_); intro v a w' hE hd hf; have d0 : (IsT2 (IsI 128 (za ^ (ii))) (IsV (.int .i64 0))) (v 3) w' := hd 3 (by kernel_rfl); obtain ⟨x0, x1, z0, y0, y1⟩ := d0; have ev0 := hf.val 3 37 _ z0 (by kernel_rfl) (by kernel_rfl) (by kernel_rfl); clear z0; clear hd hf; intro K hK; go_simp; exact hK.out _ _ (Ext.refl _) y0 (FreshIf.no rfl) }) ?_
    refine RgAll.cons (by { (with_reducible refine RgL.mk (by rfl) ?_); intro v a w' hE hd hf; have d0 : (IsT2 (IsI 128 (za ^ (ii))) (IsV (.int .i64 0))) (v 3) w' := hd 3 (by kernel_rfl); obtain ⟨x0, x1, z0, y0, y1⟩ := d0; have ev0 := hf.val 3 37 _ z0 (by kernel_rfl) (by kernel_rfl) (by kernel_rfl); clear z0; clear hd hf; intro K hK; go_simp; exact hK.out _ _ (Ext.refl _) y1 (FreshIf.no rfl) }) ?_
    refine RgAll.cons (by { (with_reducible refine RgL.mk (by rfl) ?_); intro v a w' hE hd hf; skip; clear hd hf; intro K hK; go_simp; refine hK.out _ _ ((Ext.refl _).alloc _) ⟨_, rfl, hE.size, Bx.new _ _ _ _ _⟩ FreshIf.yes }) ?_
    exact RgAll.nil
  intro v W4 e1 hΦ _
  replace S := S.mono e1
  obtain ⟨s41, a41, n41, c41, v4, h41⟩ := (hΦ 4 (by decide) : IsI 128 (za ^ (ii)) (v 4) W4)
  have v5 : v 5 = .int .i64 0 := hΦ 5 (by decide)
  obtain ⟨g11, v6, q4, b3⟩ := (hΦ 6 (by decide) : IsB W3 (v 6) W4)
  replace S := S.addN (Apart.old hl.out q4) (Nat.le_trans hw q4) b3
  clear b3
  simp only [layL, Act.put, List.setIfInBounds_toArray, List.set_cons_zero, List.set_cons_succ, Nat.reduceAdd]
  rw [v4, v5, v6]
  clear v4 v5 v6
  clear hΦ
  clear hl hw
  clear e1
  obtain ⟨s8, a8, n8, c8, b8, _⟩ := S.at 0 (g11) (IsI 0 0) rfl; have F1 := b8.c0; have F2 := b8.c1; have F3 := b8.f0; have F4 := b8.f1
  refine wpList_step fun K hK => ?_; go_simp; refine hK _ _ ?_; clear hK K
  clear F1 F2 F3 F4 b8
  obtain ⟨W5, hW, S2, G2, _⟩ := S.put 0 (g11) (IsI 0 0) (IsI 128 (za ^ (ii))) rfl s41 a41 n41 c41 (IsI.gstb _ _) ⟨_, _, _, _, rfl, h41⟩
  rw [← hW]; clear hW S
  have S : St w W5 [(g11, IsI 128 (za ^ (ii))), (g8, IsI 3 za), (w.heap.size, IsR s1 x1)] := S2; clear S2 G2
  clear h41
  refine wpList_step fun K hK => ?_; go_simp; refine hK _ _ ?_; clear hK K
  refine wpList_nil ?_
  go_upto_region 8 with (fail)
  have hl := hid S.lt; have hw := S.ext.size
  refine wp_region_rgs 7 [some 44, some 45, some 46, some 43, some 47, some 48, some 13] [IsI 3 za, IsV (.int .i64 (jj : Int)), IsT2 (IsI 128 (za ^ (jj))) (IsV (.int .i64 0)), IsT2 (IsI 128 (za ^ (jj))) (IsV (.int .i64 0)), IsI 128 (za ^ (jj)), IsV (.int .i64 0), IsB W5] [6] (by decide) (by kernel_rfl) (by kernel_rfl) (by kernel_rfl) ?_ ?_ ?_ ?_
  · repeat' (first | exact trivial | exact IsV.stb _ | exact IsI.stb _ _ | exact IsB.stb _ | exact IsR.stb _ _ | exact IsMag.stb _ _ | exact IsPos.stb | apply IsT3.stb | apply IsT2.stb | apply And.intro)
  · intro i hi; simp only [List.mem_cons, List.not_mem_nil, or_false] at hi; subst hi; exact IsB.box _
  · refine RgAll.cons (by { (with_reducible refine RgL.mk (by rfl) ?_); intro v a w' hE hd hf; have ev0 := hf.lit 8 (.pointer (some ⟨g8, 0, none⟩)) (by kernel_rfl) (by kernel_rfl); obtain ⟨s8, a8, n8, c8, b8, h8⟩ := (S.mono hE).at 1 (g8) (IsI 3 za) rfl; have L0 := b8.c0; have L1 := b8.c1; clear hd hf; intro K hK; go_simp; exact hK.out _ _ (Ext.refl _) h8 (FreshIf.no rfl) }) ?_
    refine RgAll.cons (by { (with_reducible refine RgL.mk (by rfl) ?_); intro v a w' hE hd hf; have ev0 := hf.lit 10 (.int .i64 (jj : Int)) (by kernel_rfl) (by kernel_rfl); clear hd hf; intro K hK; go_simp; exact hK.out _ _ (Ext.refl _) rfl (FreshIf.no rfl) }) ?_
    refine RgAll.cons (by { (with_reducible refine RgL.mk (by rfl) ?_); intro v a w' hE hd hf; have d0 : (IsI 3 za) (v 0) w' := hd 0 (by kernel_rfl); have ev0 := hf.val 0 44 _ rfl (by kernel_rfl) (by kernel_rfl) (by kernel_rfl); have d1 : v 1 = .int .i64 (jj : Int) := hd 1 (by kernel_rfl); have ev1 := hf.val 1 45 _ d1 (by kernel_rfl) (by kernel_rfl) (by kernel_rfl); clear d1; clear hd hf; intro K hK; go_simp; go_at_call 20; go_split_ands; (with_reducible refine Calls.mono (Pow_g d0 (by decide) (jj) (jj : Int) (by omega) (by omega) (pow_small _ _ HA3.out (by omega))) ?_); rintro e w2 ⟨x, rfl, e2, hx⟩; exact hK.out _ _ e2 hx (FreshIf.no rfl) }) ?_
    refine RgAll.cons (by { (with_reducible refine RgL.mk (by rfl) ?_); intro v a w' hE hd hf; have d0 : (IsT2 (IsI 128 (za ^ (jj))) (IsV (.int .i64 0))) (v 2) w' := hd 2 (by kernel_rfl); have ev0 := hf.val 2 46 _ rfl (by kernel_rfl) (by kernel_rfl) (by kernel_rfl); clear hd hf; intro K hK; go_simp; exact hK.out _ _ (Ext.refl _) d0 (FreshIf.no rfl) }) ?_
    refine RgAll.cons (by { (with_reducible refine RgL.mk (by rfl) ?_); intro v a w' hE hd hf; have d0 : (IsT2 (IsI 128 (za ^ (jj))) (IsV (.int .i64 0))) (v 3) w' := hd 3 (by kernel_rfl); obtain ⟨x0, x1, z0, y0, y1⟩ := d0; have ev0 := hf.val 3 43 _ z0 (by kernel_rfl) (by kernel_rfl) (by kernel_rfl); clear z0; clear hd hf; intro K hK; go_simp; exact hK.out _ _ (Ext.refl _) y0 (FreshIf.no rfl) }) ?_
    refine RgAll.cons (by { (with_reducible refine RgL.mk (by rfl) ?_); intro v a w' hE hd hf; have d0 : (IsT2 (IsI 128 (za ^ (jj))) (IsV (.int .i64 0))) (v 3) w' := hd 3 (by kernel_rfl); obtain ⟨x0, x1, z0, y0, y1⟩ := d0; have ev0 := hf.val 3 43 _ z0 (by kernel_rfl) (by kernel_rfl) (by kernel_rfl); clear z0; clear hd hf; intro K hK; go_simp; exact hK.out _ _ (Ext.refl _) y1 (FreshIf.no rfl) }) ?_
    refine RgAll.cons (by { (with_reducible refine RgL.mk (by rfl) ?_); intro v a w' hE hd hf; skip; clear hd hf; intro K hK; go_simp; refine hK.out _ _ ((Ext.refl _).alloc _) ⟨_, rfl, hE.size, Bx.new _ _ _ _ _⟩ FreshIf.yes }) ?_
    exact RgAll.nil
  intro v W6 e1 hΦ _
  replace S := S.mono e1
  obtain ⟨s47, a47, n47, c47, v4, h47⟩ := (hΦ 4 (by decide) : IsI 128 (za ^ (jj)) (v 4) W6)
  have v5 : v 5 = .int .i64 0 := hΦ 5 (by decide)
  obtain ⟨g13, v6, q6, b5⟩ := (hΦ 6 (by decide) : IsB W5 (v 6) W6)
  replace S := S.addN (Apart.old hl.out q6) (Nat.le_trans hw q6) b5
  clear b5
  simp only [layL, Act.put, List.setIfInBounds_toArray, List.set_cons_zero, List.set_cons_succ, Nat.reduceAdd]
  rw [v4, v5, v6]
  clear v4 v5 v6
  clear hΦ
  clear hl hw
  clear e1
  obtain ⟨s8, a8, n8, c8, b8, _⟩ := S.at 0 (g13) (IsI 0 0) rfl; have F1 := b8.c0; have F2 := b8.c1; have F3 := b8.f0; have F4 := b8.f1
  refine wpList_step fun K hK => ?_; go_simp; refine hK _ _ ?_; clear hK K
  clear F1 F2 F3 F4 b8
  obtain ⟨W7, hW, S2, G2, _⟩ := S.put 0 (g13) (IsI 0 0) (IsI 128 (za ^ (jj))) rfl s47 a47 n47 c47 (IsI.gstb _ _) ⟨_, _, _, _, rfl, h47⟩
  rw [← hW]; clear hW S
  have S : St w W7 [(g13, IsI 128 (za ^ (jj))), (g11, IsI 128 (za ^ (ii))), (g8, IsI 3 za), (w.heap.size, IsR s1 x1)] := S2; clear S2 G2
  clear h47
  refine wpList_step fun K hK => ?_; go_simp; refine hK _ _ ?_; clear hK K
  refine wpList_nil ?_
  go_upto_region 9 with (fail)
  have hl := hid S.lt; have hw := S.ext.size
  refine wp_region_rgs 9 [some 50, some 51, some 52, some 53, some 54, some 49, some 55, some 56, some 15] [IsI 3 za, IsV (.int .i64 (ii : Int)), IsV (.int .i64 (jj : Int)), IsV (.int .i64 ((ii : Int) + (jj : Int))), IsT2 (IsI 128 (za ^ (ii + jj))) (IsV (.int .i64 0)), IsT2 (IsI 128 (za ^ (ii + jj))) (IsV (.int .i64 0)), IsI 128 (za ^ (ii + jj)), IsV (.int .i64 0), IsB W7] [8] (by decide) (by kernel_rfl) (by kernel_rfl) (by kernel_rfl) ?_ ?_ ?_ ?_
  · repeat' (first | exact trivial | exact IsV.stb _ | exact IsI.stb _ _ | exact IsB.stb _ | exact IsR.stb _ _ | exact IsMag.stb _ _ | exact IsPos.stb | apply IsT3.stb | apply IsT2.stb | apply And.intro)
  · intro i hi; simp only [List.mem_cons, List.not_mem_nil, or_false] at hi; subst hi; exact IsB.box _
  · refine RgAll.cons (by { (with_reducible refine RgL.mk (by rfl) ?_); intro v a w' hE hd hf; have ev0 := hf.lit 8 (.pointer (some ⟨g8, 0, none⟩)) (by kernel_rfl) (by kernel_rfl); obtain ⟨s8, a8, n8, c8, b8, h8⟩ := (S.mono hE).at 2 (g8) (IsI 3 za) rfl; have L0 := b8.c0; have L1 := b8.c1; clear hd hf; intro K hK; go_simp; exact hK.out _ _ (Ext.refl _) h8 (FreshIf.no rfl) }) ?_
    refine RgAll.cons (by { (with_reducible refine RgL.mk (by rfl) ?_); intro v a w' hE hd hf; have ev0 := hf.lit 9 (.int .i64 (ii : Int)) (by kernel_rfl) (by kernel_rfl); clear hd hf; intro K hK; go_simp; exact hK.out _ _ (Ext.refl _) rfl (FreshIf.no rfl) }) ?_
    refine RgAll.cons (by { (with_reducible refine RgL.mk (by rfl) ?_); intro v a w' hE hd hf; have ev0 := hf.lit 10 (.int .i64 (jj : Int)) (by kernel_rfl) (by kernel_rfl); clear hd hf; intro K hK; go_simp; exact hK.out _ _ (Ext.refl _) rfl (FreshIf.no rfl) }) ?_
    refine RgAll.cons (by { (with_reducible refine RgL.mk (by rfl) ?_); intro v a w' hE hd hf; have d0 : v 1 = .int .i64 (ii : Int) := hd 1 (by kernel_rfl); have ev0 := hf.val 1 51 _ d0 (by kernel_rfl) (by kernel_rfl) (by kernel_rfl); clear d0; have d1 : v 2 = .int .i64 (jj : Int) := hd 2 (by kernel_rfl); have ev1 := hf.val 2 52 _ d1 (by kernel_rfl) (by kernel_rfl) (by kernel_rfl); clear d1; have hw9 := HW.out.1; clear hd hf; intro K hK; go_simp; exact hK.out _ _ (Ext.refl _) rfl (FreshIf.no rfl) }) ?_
    refine RgAll.cons (by { (with_reducible refine RgL.mk (by rfl) ?_); intro v a w' hE hd hf; have d0 : (IsI 3 za) (v 0) w' := hd 0 (by kernel_rfl); have ev0 := hf.val 0 50 _ rfl (by kernel_rfl) (by kernel_rfl) (by kernel_rfl); have d1 : v 3 = .int .i64 ((ii : Int) + (jj : Int)) := hd 3 (by kernel_rfl); have ev1 := hf.val 3 53 _ d1 (by kernel_rfl) (by kernel_rfl) (by kernel_rfl); clear d1; clear hd hf; intro K hK; go_simp; go_at_call 20; go_split_ands; (with_reducible refine Calls.mono (Pow_g d0 (by decide) (ii + jj) ((ii : Int) + (jj : Int)) (by omega) (by omega) (pow_small _ _ HA3.out (by omega))) ?_); rintro e w2 ⟨x, rfl, e2, hx⟩; exact hK.out _ _ e2 hx (FreshIf.no rfl) }) ?_
    refine RgAll.cons (by { (with_reducible refine RgL.mk (by rfl) ?_); intro v a w' hE hd hf; have d0 : (IsT2 (IsI 128 (za ^ (ii + jj))) (IsV (.int .i64 0))) (v 4) w' := hd 4 (by kernel_rfl); have ev0 := hf.val 4 54 _ rfl (by kernel_rfl) (by kernel_rfl) (by kernel_rfl); clear hd hf; intro K hK; go_simp; exact hK.out _ _ (Ext.refl _) d0 (FreshIf.no rfl) }) ?_
    refine RgAll.cons (by { (with_reducible refine RgL.mk (by rfl) ?_); intro v a w' hE hd hf; have d0 : (IsT2 (IsI 128 (za ^ (ii + jj))) (IsV (.int .i64 0))) (v 5) w' := hd 5 (by kernel_rfl); obtain ⟨x0, x1, z0, y0, y1⟩ := d0; have ev0 := hf.val 5 49 _ z0 (by kernel_rfl) (by kernel_rfl) (by kernel_rfl); clear z0; clear hd hf; intro K hK; go_simp; exact hK.out _ _ (Ext.refl _) y0 (FreshIf.no rfl) }) ?_
    refine RgAll.cons (by { (with_reducible refine RgL.mk (by rfl) ?_); intro v a w' hE hd hf; have d0 : (IsT2 (IsI 128 (za ^ (ii + jj))) (IsV (.int .i64 0))) (v 5) w' := hd 5 (by kernel_rfl); obtain ⟨x0, x1, z0, y0, y1⟩ := d0; have ev0 := hf.val 5 49 _ z0 (by kernel_rfl) (by kernel_rfl) (by kernel_rfl); clear z0; clear hd hf; intro K hK; go_simp; exact hK.out _ _ (Ext.refl _) y1 (FreshIf.no rfl) }) ?_
    refine RgAll.cons (by { (with_reducible refine RgL.mk (by rfl) ?_); intro v a w' hE hd hf; skip; clear hd hf; intro K hK; go_simp; refine hK.out _ _ ((Ext.refl _).alloc _) ⟨_, rfl, hE.size, Bx.new _ _ _ _ _⟩ FreshIf.yes }) ?_
    exact RgAll.nil
  intro v W8 e1 hΦ _
  replace S := S.mono e1
  obtain ⟨s55, a55, n55, c55, v6, h55⟩ := (hΦ 6 (by decide) : IsI 128 (za ^ (ii + jj)) (v 6) W8)
  have v7 : v 7 = .int .i64 0 := hΦ 7 (by decide)
  obtain ⟨g15, v8, q8, b7⟩ := (hΦ 8 (by decide) : IsB W7 (v 8) W8)
  replace S := S.addN (Apart.old hl.out q8) (Nat.le_trans hw q8) b7
  clear b7
  simp only [layL, Act.put, List.setIfInBounds_toArray, List.set_cons_zero, List.set_cons_succ, Nat.reduceAdd]
  rw [v6, v7, v8]
  clear v6 v7 v8
  clear hΦ
  clear hl hw
  clear e1
  obtain ⟨s8, a8, n8, c8, b8, _⟩ := S.at 0 (g15) (IsI 0 0) rfl; have F1 := b8.c0; have F2 := b8.c1; have F3 := b8.f0; have F4 := b8.f1
  refine wpList_step fun K hK => ?_; go_simp; refine hK _ _ ?_; clear hK K
  clear F1 F2 F3 F4 b8
  obtain ⟨W9, hW, S2, G2, _⟩ := S.put 0 (g15) (IsI 0 0) (IsI 128 (za ^ (ii + jj))) rfl s55 a55 n55 c55 (IsI.gstb _ _) ⟨_, _, _, _, rfl, h55⟩
  rw [← hW]; clear hW S
  have S : St w W9 [(g15, IsI 128 (za ^ (ii + jj))), (g13, IsI 128 (za ^ (jj))), (g11, IsI 128 (za ^ (ii))), (g8, IsI 3 za), (w.heap.size, IsR s1 x1)] := S2; clear S2 G2
  clear h55
  refine wpList_step fun K hK => ?_; go_simp; refine hK _ _ ?_; clear hK K
  refine wpList_nil ?_
  go_upto_region 10 with (fail)
  refine wp_region_rg 18 [some 57, some 58, some 59, some 60, some 61, some 62, some 63, some 64, some 65, some 66, some 67, some 68, some 69, some 70, some 71, some 72, some 73, some 74] [IsV (.int .i64 0), IsV (.bool false), IsV (.bool false), IsV (.int .i64 0), IsV (.bool false), IsV (.bool false), IsV (.bool false), IsV (.int .i64 0), IsV (.bool false), IsV (.bool false), IsV (.bool false), IsI 128 (za ^ (ii)), IsI 128 (za ^ (jj)), IsI 256 ((za ^ (ii)) * (za ^ (jj))), IsI 128 (za ^ (ii + jj)), IsV (.bool true), IsV (.bool false), IsV (.bool false)] [] 0 (by kernel_rfl) (by decide) (by kernel_rfl) (by kernel_rfl) (by kernel_rfl) (by kernel_rfl) (by kernel_rfl) ?_ ?_ ?_ ?_
  · repeat' (first | exact trivial | exact IsV.stb _ | exact IsI.stb _ _ | exact IsB.stb _ | exact IsR.stb _ _ | exact IsMag.stb _ _ | exact IsPos.stb | apply IsT3.stb | apply IsT2.stb | apply And.intro)
  · exact (fun _ h => by cases h)
  · refine RgAll.cons (by { (with_reducible refine RgL.mk (by rfl) ?_); intro v a w' hE hd hf; have ev0 := hf.lit 12 (.int .i64 0) (by kernel_rfl) (by kernel_rfl); clear hd hf; intro K hK; go_simp; exact hK.out _ _ (Ext.refl _) rfl (FreshIf.no rfl) }) ?_
    refine RgAll.cons (by { (with_reducible refine RgL.mk (by rfl) ?_); intro v a w' hE hd hf; have d0 : v 0 = .int .i64 0 := hd 0 (by kernel_rfl); have ev0 := hf.val 0 57 _ d0 (by kernel_rfl) (by kernel_rfl) (by kernel_rfl); clear d0; clear hd hf; intro K hK; go_simp; exact hK.out _ _ (Ext.refl _) rfl (FreshIf.no rfl) }) ?_
    refine RgAll.cons (by { (with_reducible refine RgL.mk (by rfl) ?_); intro v a w' hE hd hf; have d0 : v 1 = .bool false := hd 1 (by kernel_rfl); have ev0 := hf.val 1 58 _ d0 (by kernel_rfl) (by kernel_rfl) (by kernel_rfl); clear d0; clear hd hf; intro K hK; go_simp; exact hK.out _ _ (Ext.refl _) rfl (FreshIf.no rfl) }) ?_
    refine RgAll.cons (by { (with_reducible refine RgL.mkG 2 59 false (by rfl) (by kernel_rfl) (by kernel_rfl) (by kernel_rfl) (by kernel_rfl) (by kernel_rfl) ?_ ?_); (focus (intro _ _ h; exact h)); intro v a w' hE hd hf; have ev0 := hf.lit 14 (.int .i64 0) (by kernel_rfl) (by kernel_rfl); clear hd hf; intro K hK; go_simp; exact hK.out _ _ (Ext.refl _) rfl (FreshIf.no rfl) }) ?_
    refine RgAll.cons (by { (with_reducible refine RgL.mkG 2 59 false (by rfl) (by kernel_rfl) (by kernel_rfl) (by kernel_rfl) (by kernel_rfl) (by kernel_rfl) ?_ ?_); (focus (intro _ _ h; exact h)); intro v a w' hE hd hf; have d0 : v 3 = .int .i64 0 := hd 3 (by kernel_rfl); have ev0 := hf.val 3 60 _ d0 (by kernel_rfl) (by kernel_rfl) (by kernel_rfl); clear d0; clear hd hf; intro K hK; go_simp; exact hK.out _ _ (Ext.refl _) rfl (FreshIf.no rfl) }) ?_
    refine RgAll.cons (by { (with_reducible refine RgL.mk (by rfl) ?_); intro v a w' hE hd hf; have d0 : v 2 = .bool false := hd 2 (by kernel_rfl); have ev0 := hf.val 2 59 _ d0 (by kernel_rfl) (by kernel_rfl) (by kernel_rfl); clear d0; have d1 : v 4 = .bool false := hd 4 (by kernel_rfl); have ev1 := hf.val 4 61 _ d1 (by kernel_rfl) (by kernel_rfl) (by kernel_rfl); clear d1; clear hd hf; intro K hK; go_simp; exact hK.out _ _ (Ext.refl _) rfl (FreshIf.no rfl) }) ?_
    refine RgAll.cons (by { (with_reducible refine RgL.mk (by rfl) ?_); intro v a w' hE hd hf; have d0 : v 5 = .bool false := hd 5 (by kernel_rfl); have ev0 := hf.val 5 62 _ d0 (by kernel_rfl) (by kernel_rfl) (by kernel_rfl); clear d0; clear hd hf; intro K hK; go_simp; exact hK.out _ _ (Ext.refl _) rfl (FreshIf.no rfl) }) ?_
    refine RgAll.cons (by { (with_reducible refine RgL.mkG 6 63 false (by rfl) (by kernel_rfl) (by kernel_rfl) (by kernel_rfl) (by kernel_rfl) (by kernel_rfl) ?_ ?_); (focus (intro _ _ h; exact h)); intro v a w' hE hd hf; have ev0 := hf.lit 16 (.int .i64 0) (by kernel_rfl) (by kernel_rfl); clear hd hf; intro K hK; go_simp; exact hK.out _ _ (Ext.refl _) rfl (FreshIf.no rfl) }) ?_
    refine RgAll.cons (by { (with_reducible refine RgL.mkG 6 63 false (by rfl) (by kernel_rfl) (by kernel_rfl) (by kernel_rfl) (by kernel_rfl) (by kernel_rfl) ?_ ?_); (focus (intro _ _ h; exact h)); intro v a w' hE hd hf; have d0 : v 7 = .int .i64 0 := hd 7 (by kernel_rfl); have ev0 := hf.val 7 64 _ d0 (by kernel_rfl) (by kernel_rfl) (by kernel_rfl); clear d0; clear hd hf; intro K hK; go_simp; exact hK.out _ _ (Ext.refl _) rfl (FreshIf.no rfl) }) ?_
    refine RgAll.cons (by { (with_reducible refine RgL.mk (by rfl) ?_); intro v a w' hE hd hf; have d0 : v 6 = .bool false := hd 6 (by kernel_rfl); have ev0 := hf.val 6 63 _ d0 (by kernel_rfl) (by kernel_rfl) (by kernel_rfl); clear d0; have d1 : v 8 = .bool false := hd 8 (by kernel_rfl); have ev1 := hf.val 8 65 _ d1 (by kernel_rfl) (by kernel_rfl) (by kernel_rfl); clear d1; clear hd hf; intro K hK; go_simp; exact hK.out _ _ (Ext.refl _) rfl (FreshIf.no rfl) }) ?_
    refine RgAll.cons (by { (with_reducible refine RgL.mk (by rfl) ?_); intro v a w' hE hd hf; have d0 : v 9 = .bool false := hd 9 (by kernel_rfl); have ev0 := hf.val 9 66 _ d0 (by kernel_rfl) (by kernel_rfl) (by kernel_rfl); clear d0; clear hd hf; intro K hK; go_simp; exact hK.out _ _ (Ext.refl _) rfl (FreshIf.no rfl) }) ?_
    refine RgAll.cons (by { (with_reducible refine RgL.mkG 10 67 false (by rfl) (by kernel_rfl) (by kernel_rfl) (by kernel_rfl) (by kernel_rfl) (by kernel_rfl) ?_ ?_); (focus (intro _ _ h; exact h)); intro v a w' hE hd hf; have ev0 := hf.lit 11 (.pointer (some ⟨g11, 0, none⟩)) (by kernel_rfl) (by kernel_rfl); obtain ⟨s8, a8, n8, c8, b8, h8⟩ := (S.mono hE).at 2 (g11) (IsI 128 (za ^ (ii))) rfl; have L0 := b8.c0; have L1 := b8.c1; clear hd hf; intro K hK; go_simp; exact hK.out _ _ (Ext.refl _) h8 (FreshIf.no rfl) }) ?_
    refine RgAll.cons (by { (with_reducible refine RgL.mkG 10 67 false (by rfl) (by kernel_rfl) (by kernel_rfl) (by kernel_rfl) (by kernel_rfl) (by kernel_rfl) ?_ ?_); (focus (intro _ _ h; exact h)); intro v a w' hE hd hf; have ev0 := hf.lit 13 (.pointer (some ⟨g13, 0, none⟩)) (by kernel_rfl) (by kernel_rfl); obtain ⟨s8, a8, n8, c8, b8, h8⟩ := (S.mono hE).at 1 (g13) (IsI 128 (za ^ (jj))) rfl; have L0 := b8.c0; have L1 := b8.c1; clear hd hf; intro K hK; go_simp; exact hK.out _ _ (Ext.refl _) h8 (FreshIf.no rfl) }) ?_
    refine RgAll.cons (by { (with_reducible refine RgL.mkG 10 67 false (by rfl) (by kernel_rfl) (by kernel_rfl) (by kernel_rfl) (by kernel_rfl) (by kernel_rfl) ?_ ?_); (focus (intro _ _ h; exact h)); intro v a w' hE hd hf; have d0 : (IsI 128 (za ^ (ii))) (v 11) w' := hd 11 (by kernel_rfl); have ev0 := hf.val 11 68 _ rfl (by kernel_rfl) (by kernel_rfl) (by kernel_rfl); have d1 : (IsI 128 (za ^ (jj))) (v 12) w' := hd 12 (by kernel_rfl); have ev1 := hf.val 12 69 _ rfl (by kernel_rfl) (by kernel_rfl) (by kernel_rfl); clear hd hf; intro K hK; go_simp; go_at_call 13; go_split_ands; (with_reducible refine Calls.mono (Mul_f d0 d1 (by decide) (by decide)) ?_); rintro e w2 ⟨x, rfl, e2, hx⟩; exact hK.out _ _ e2 hx (FreshIf.no rfl) }) ?_
    refine RgAll.cons (by { (with_reducible refine RgL.mkG 10 67 false (by rfl) (by kernel_rfl) (by kernel_rfl) (by kernel_rfl) (by kernel_rfl) (by kernel_rfl) ?_ ?_); (focus (intro _ _ h; exact h)); intro v a w' hE hd hf; have ev0 := hf.lit 15 (.pointer (some ⟨g15, 0, none⟩)) (by kernel_rfl) (by kernel_rfl); obtain ⟨s8, a8, n8, c8, b8, h8⟩ := (S.mono hE).at 0 (g15) (IsI 128 (za ^ (ii + jj))) rfl; have L0 := b8.c0; have L1 := b8.c1; clear hd hf; intro K hK; go_simp; exact hK.out _ _ (Ext.refl _) h8 (FreshIf.no rfl) }) ?_
    refine RgAll.cons (by { (with_reducible refine RgL.mkG 10 67 false (by rfl) (by kernel_rfl) (by kernel_rfl) (by kernel_rfl) (by kernel_rfl) (by kernel_rfl) ?_ ?_); (focus (intro _ _ h; exact h)); intro v a w' hE hd hf; have d0 : (IsI 256 ((za ^ (ii)) * (za ^ (jj)))) (v 13) w' := hd 13 (by kernel_rfl); have ev0 := hf.val 13 70 _ rfl (by kernel_rfl) (by kernel_rfl) (by kernel_rfl); have d1 : (IsI 128 (za ^ (ii + jj))) (v 14) w' := hd 14 (by kernel_rfl); have ev1 := hf.val 14 71 _ rfl (by kernel_rfl) (by kernel_rfl) (by kernel_rfl); clear hd hf; intro K hK; go_simp; go_at_call 14; go_split_ands; (with_reducible refine Calls.mono (Same_t d0 d1 (HP.out) (by decide)) ?_); rintro e w2 ⟨x, rfl, e2, hx⟩; exact hK.out _ _ e2 hx (FreshIf.no rfl) }) ?_
    refine RgAll.cons (by { (with_reducible refine RgL.mkG 10 67 false (by rfl) (by kernel_rfl) (by kernel_rfl) (by kernel_rfl) (by kernel_rfl) (by kernel_rfl) ?_ ?_); (focus (intro _ _ h; exact h)); intro v a w' hE hd hf; have d0 : v 15 = .bool true := hd 15 (by kernel_rfl); have ev0 := hf.val 15 72 _ d0 (by kernel_rfl) (by kernel_rfl) (by kernel_rfl); clear d0; clear hd hf; intro K hK; go_simp; exact hK.out _ _ (Ext.refl _) rfl (FreshIf.no rfl) }) ?_
    refine RgAll.cons (by { (with_reducible refine RgL.mk (by rfl) ?_); intro v a w' hE hd hf; have d0 : v 10 = .bool false := hd 10 (by kernel_rfl); have ev0 := hf.val 10 67 _ d0 (by kernel_rfl) (by kernel_rfl) (by kernel_rfl); clear d0; have d1 : v 16 = .bool false := hd 16 (by kernel_rfl); have ev1 := hf.val 16 73 _ d1 (by kernel_rfl) (by kernel_rfl) (by kernel_rfl); clear d1; clear hd hf; intro K hK; go_simp; exact hK.out _ _ (Ext.refl _) rfl (FreshIf.no rfl) }) ?_
    exact RgAll.nil
  intro v W10 e1 hΦ _
  replace S := S.mono e1
  have v17 : v 17 = .bool false := hΦ 17 (by decide)
  simp only [layL, Act.put, List.setIfInBounds_toArray, List.set_cons_zero, List.set_cons_succ, Nat.reduceAdd]
  rw [v17]
  clear v17
  clear hΦ
  clear e1
  refine wpAny_done (by kernel_rfl) ?_ _
  go_upto_region 12 with (fail)
  have hl := hid S.lt; have hw := S.ext.size
  refine wp_region_rgs 3 [some 75, some 76, some 17] [IsI 3 za, IsI 3 ((bb : Int)), IsB W10] [2] (by decide) (by kernel_rfl) (by kernel_rfl) (by kernel_rfl) ?_ ?_ ?_ ?_
  · repeat' (first | exact trivial | exact IsV.stb _ | exact IsI.stb _ _ | exact IsB.stb _ | exact IsR.stb _ _ | exact IsMag.stb _ _ | exact IsPos.stb | apply IsT3.stb | apply IsT2.stb | apply And.intro)
  · intro i hi; simp only [List.mem_cons, List.not_mem_nil, or_false] at hi; subst hi; exact IsB.box _
  · refine RgAll.cons (by { (with_reducible refine RgL.mk (by rfl) ?_); intro v a w' hE hd hf; have ev0 := hf.lit 8 (.pointer (some ⟨g8, 0, none⟩)) (by kernel_rfl) (by kernel_rfl); obtain ⟨s8, a8, n8, c8, b8, h8⟩ := (S.mono hE).at 3 (g8) (IsI 3 za) rfl; have L0 := b8.c0; have L1 := b8.c1; clear hd hf; intro K hK; go_simp; exact hK.out _ _ (Ext.refl _) h8 (FreshIf.no rfl) }) ?_
    refine RgAll.cons (by { (with_reducible refine RgL.mk (by rfl) ?_); intro v a w' hE hd hf; have d0 : (IsI 3 za) (v 0) w' := hd 0 (by kernel_rfl); have ev0 := hf.val 0 75 _ rfl (by kernel_rfl) (by kernel_rfl) (by kernel_rfl); clear hd hf; intro K hK; go_simp; go_at_call 17; go_split_ands; (with_reducible refine Calls.mono (Calls.mono (Abs_f d0) fun _ _ h => h.eqz (HBB.out)) ?_); rintro e w2 ⟨x, rfl, e2, hx⟩; exact hK.out _ _ e2 hx (FreshIf.no rfl) }) ?_
    refine RgAll.cons (by { (with_reducible refine RgL.mk (by rfl) ?_); intro v a w' hE hd hf; skip; clear hd hf; intro K hK; go_simp; refine hK.out _ _ ((Ext.refl _).alloc _) ⟨_, rfl, hE.size, Bx.new _ _ _ _ _⟩ FreshIf.yes }) ?_
    exact RgAll.nil
  intro v W11 e1 hΦ _
  replace S := S.mono e1
  obtain ⟨s76, a76, n76, c76, v1, h76⟩ := (hΦ 1 (by decide) : IsI 3 ((bb : Int)) (v 1) W11)
  obtain ⟨g17, v2, q10, b9⟩ := (hΦ 2 (by decide) : IsB W10 (v 2) W11)
  replace S := S.addN (Apart.old hl.out q10) (Nat.le_trans hw q10) b9
  clear b9
  simp only [layL, Act.put, List.setIfInBounds_toArray, List.set_cons_zero, List.set_cons_succ, Nat.reduceAdd]
  rw [v1, v2]
  clear v1 v2
  clear hΦ
  clear hl hw
  clear e1
  obtain ⟨s8, a8, n8, c8, b8, _⟩ := S.at 0 (g17) (IsI 0 0) rfl; have F1 := b8.c0; have F2 := b8.c1; have F3 := b8.f0; have F4 := b8.f1
  refine wpList_step fun K hK => ?_; go_simp; refine hK _ _ ?_; clear hK K
  clear F1 F2 F3 F4 b8
  obtain ⟨W12, hW, S2, G2, _⟩ := S.put 0 (g17) (IsI 0 0) (IsI 3 ((bb : Int))) rfl s76 a76 n76 c76 (IsI.gstb _ _) ⟨_, _, _, _, rfl, h76⟩
  rw [← hW]; clear hW S
  have S : St w W12 [(g17, IsI 3 ((bb : Int))), (g15, IsI 128 (za ^ (ii + jj))), (g13, IsI 128 (za ^ (jj))), (g11, IsI 128 (za ^ (ii))), (g8, IsI 3 za), (w.heap.size, IsR s1 x1)] := S2; clear S2 G2
  clear h76
  refine wpList_nil ?_
  go_upto_region 13 with (fail)
  have hl := hid S.lt; have hw := S.ext.size
  refine wp_region_rgs 8 [some 78, some 79, some 80, some 81, some 77, some 82, some 83, some 18] [IsI 3 ((bb : Int)), IsV (.int .i64 (jj : Int)), IsV (.int .i64 (1 + (jj : Int))), IsT2 (IsI 128 ((bb : Int) ^ (1 + jj))) (IsV (.int .i64 0)), IsT2 (IsI 128 ((bb : Int) ^ (1 + jj))) (IsV (.int .i64 0)), IsI 128 ((bb : Int) ^ (1 + jj)), IsV (.int .i64 0), IsB W12] [7] (by decide) (by kernel_rfl) (by kernel_rfl) (by kernel_rfl) ?_ ?_ ?_ ?_
  · repeat' (first | exact trivial | exact IsV.stb _ | exact IsI.stb _ _ | exact IsB.stb _ | exact IsR.stb _ _ | exact IsMag.stb _ _ | exact IsPos.stb | apply IsT3.stb | apply IsT2.stb | apply And.intro)
  · intro i hi; simp only [List.mem_cons, List.not_mem_nil, or_false] at hi; subst hi; exact IsB.box _
  · refine RgAll.cons (by { (with_reducible refine RgL.mk (by rfl) ?_); intro v a w' hE hd hf; have ev0 := hf.lit 17 (.pointer (some ⟨g17, 0, none⟩)) (by kernel_rfl) (by kernel_rfl); obtain ⟨s8, a8, n8, c8, b8, h8⟩ := (S.mono hE).at 0 (g17) (IsI 3 ((bb : Int))) rfl; have L0 := b8.c0; have L1 := b8.c1; clear hd hf; intro K hK; go_simp; exact hK.out _ _ (Ext.refl _) h8 (FreshIf.no rfl) }) ?_
    refine RgAll.cons (by { (with_reducible refine RgL.mk (by rfl) ?_); intro v a w' hE hd hf; have ev0 := hf.lit 10 (.int .i64 (jj : Int)) (by kernel_rfl) (by kernel_rfl); clear hd hf; intro K hK; go_simp; exact hK.out _ _ (Ext.refl _) rfl (FreshIf.no rfl) }) ?_
    refine RgAll.cons (by { (with_reducible refine RgL.mk (by rfl) ?_); intro v a w' hE hd hf; have d1 : v 1 = .int .i64 (jj : Int) := hd 1 (by kernel_rfl); have ev1 := hf.val 1 79 _ d1 (by kernel_rfl) (by kernel_rfl) (by kernel_rfl); clear d1; have hw9 := HW.out.2; clear hd hf; intro K hK; go_simp; exact hK.out _ _ (Ext.refl _) rfl (FreshIf.no rfl) }) ?_
    refine RgAll.cons (by { (with_reducible refine RgL.mk (by rfl) ?_); intro v a w' hE hd hf; have d0 : (IsI 3 ((bb : Int))) (v 0) w' := hd 0 (by kernel_rfl); have ev0 := hf.val 0 78 _ rfl (by kernel_rfl) (by kernel_rfl) (by kernel_rfl); have d1 : v 2 = .int .i64 (1 + (jj : Int)) := hd 2 (by kernel_rfl); have ev1 := hf.val 2 80 _ d1 (by kernel_rfl) (by kernel_rfl) (by kernel_rfl); clear d1; clear hd hf; intro K hK; go_simp; go_at_call 20; go_split_ands; (with_reducible refine Calls.mono (Pow_g d0 (by decide) (1 + jj) (1 + (jj : Int)) (by omega) (by omega) (pow_small _ _ HB3.out (by omega))) ?_); rintro e w2 ⟨x, rfl, e2, hx⟩; exact hK.out _ _ e2 hx (FreshIf.no rfl) }) ?_
    refine RgAll.cons (by { (with_reducible refine RgL.mk (by rfl) ?_); intro v a w' hE hd hf; have d0 : (IsT2 (IsI 128 ((bb : Int) ^ (1 + jj))) (IsV (.int .i64 0))) (v 3) w' := hd 3 (by kernel_rfl); have ev0 := hf.val 3 81 _ rfl (by kernel_rfl) (by kernel_rfl) (by kernel_rfl); clear hd hf; intro K hK; go_simp; exact hK.out _ _ (Ext.refl _) d0 (FreshIf.no rfl) }) ?_
    refine RgAll.cons (by { (with_reducible refine RgL.mk (by rfl) ?_); intro v a w' hE hd hf; have d0 : (IsT2 (IsI 128 ((bb : Int) ^ (1 + jj))) (IsV (.int .i64 0))) (v 4) w' := hd 4 (by kernel_rfl); obtain ⟨x0, x1, z0, y0, y1⟩ := d0; have ev0 := hf.val 4 77 _ z0 (by kernel_rfl) (by kernel_rfl) (by kernel_rfl); clear z0; clear hd hf; intro K hK; go_simp; exact hK.out _ _ (Ext.refl _) y0 (FreshIf.no rfl) }) ?_
    refine RgAll.cons (by { (with_reducible refine RgL.mk (by rfl) ?_); intro v a w' hE hd hf; have d0 : (IsT2 (IsI 128 ((bb : Int) ^ (1 + jj))) (IsV (.int .i64 0))) (v 4) w' := hd 4 (by kernel_rfl); obtain ⟨x0, x1, z0, y0, y1⟩ := d0; have ev0 := hf.val 4 77 _ z0 (by kernel_rfl) (by kernel_rfl) (by kernel_rfl); clear z0; clear hd hf; intro K hK; go_simp; exact hK.out _ _ (Ext.refl _) y1 (FreshIf.no rfl) }) ?_
    refine RgAll.cons (by { (with_reducible refine RgL.mk (by rfl) ?_); intro v a w' hE hd hf; skip; clear hd hf; intro K hK; go_simp; refine hK.out _ _ ((Ext.refl _).alloc _) ⟨_, rfl, hE.size, Bx.new _ _ _ _ _⟩ FreshIf.yes }) ?_
    exact RgAll.nil
  intro v W13 e1 hΦ _
  replace S := S.mono e1
  obtain ⟨s82, a82, n82, c82, v5, h82⟩ := (hΦ 5 (by decide) : IsI 128 ((bb : Int) ^ (1 + jj)) (v 5) W13)
  have v6 : v 6 = .int .i64 0 := hΦ 6 (by decide)
  obtain ⟨g18, v7, q12, b11⟩ := (hΦ 7 (by decide) : IsB W12 (v 7) W13)
  replace S := S.addN (Apart.old hl.out q12) (Nat.le_trans hw q12) b11
  clear b11
  simp only [layL, Act.put, List.setIfInBounds_toArray, List.set_cons_zero, List.set_cons_succ, Nat.reduceAdd]
  rw [v5, v6, v7]
  clear v5 v6 v7
  clear hΦ
  clear hl hw
  clear e1
  obtain ⟨s8, a8, n8, c8, b8, _⟩ := S.at 0 (g18) (IsI 0 0) rfl; have F1 := b8.c0; have F2 := b8.c1; have F3 := b8.f0; have F4 := b8.f1
  refine wpList_step fun K hK => ?_; go_simp; refine hK _ _ ?_; clear hK K
  clear F1 F2 F3 F4 b8
  obtain ⟨W14, hW, S2, G2, _⟩ := S.put 0 (g18) (IsI 0 0) (IsI 128 ((bb : Int) ^ (1 + jj))) rfl s82 a82 n82 c82 (IsI.gstb _ _) ⟨_, _, _, _, rfl, h82⟩
  rw [← hW]; clear hW S
  have S : St w W14 [(g18, IsI 128 ((bb : Int) ^ (1 + jj))), (g17, IsI 3 ((bb : Int))), (g15, IsI 128 (za ^ (ii + jj))), (g13, IsI 128 (za ^ (jj))), (g11, IsI 128 (za ^ (ii))), (g8, IsI 3 za), (w.heap.size, IsR s1 x1)] := S2; clear S2 G2
  clear h82
  refine wpList_step fun K hK => ?_; go_simp; refine hK _ _ ?_; clear hK K
  refine wpList_nil ?_
  go_upto_region 14 with (fail)
  have hl := hid S.lt; have hw := S.ext.size
  refine wp_region_rgs 8 [some 85, some 86, some 87, some 88, some 84, some 89, some 90, some 20] [IsI 128 ((bb : Int) ^ (1 + jj)), IsV (.int .i64 (jj : Int)), IsV (.int .i64 (1 + (jj : Int))), IsT2 (IsI 128 ((bb : Int))) (IsV (.int .i64 0)), IsT2 (IsI 128 ((bb : Int))) (IsV (.int .i64 0)), IsI 128 ((bb : Int)), IsV (.int .i64 0), IsB W14] [7] (by decide) (by kernel_rfl) (by kernel_rfl) (by kernel_rfl) ?_ ?_ ?_ ?_
  · repeat' (first | exact trivial | exact IsV.stb _ | exact IsI.stb _ _ | exact IsB.stb _ | exact IsR.stb _ _ | exact IsMag.stb _ _ | exact IsPos.stb | apply IsT3.stb | apply IsT2.stb | apply And.intro)
  · intro i hi; simp only [List.mem_cons, List.not_mem_nil, or_false] at hi; subst hi; exact IsB.box _
  · refine RgAll.cons (by { (with_reducible refine RgL.mk (by rfl) ?_); intro v a w' hE hd hf; have ev0 := hf.lit 18 (.pointer (some ⟨g18, 0, none⟩)) (by kernel_rfl) (by kernel_rfl); obtain ⟨s8, a8, n8, c8, b8, h8⟩ := (S.mono hE).at 0 (g18) (IsI 128 ((bb : Int) ^ (1 + jj))) rfl; have L0 := b8.c0; have L1 := b8.c1; clear hd hf; intro K hK; go_simp; exact hK.out _ _ (Ext.refl _) h8 (FreshIf.no rfl) }) ?_
    refine RgAll.cons (by { (with_reducible refine RgL.mk (by rfl) ?_); intro v a w' hE hd hf; have ev0 := hf.lit 10 (.int .i64 (jj : Int)) (by kernel_rfl) (by kernel_rfl); clear hd hf; intro K hK; go_simp; exact hK.out _ _ (Ext.refl _) rfl (FreshIf.no rfl) }) ?_
    refine RgAll.cons (by { (with_reducible refine RgL.mk (by rfl) ?_); intro v a w' hE hd hf; have d1 : v 1 = .int .i64 (jj : Int) := hd 1 (by kernel_rfl); have ev1 := hf.val 1 86 _ d1 (by kernel_rfl) (by kernel_rfl) (by kernel_rfl); clear d1; have hw9 := HW.out.2; clear hd hf; intro K hK; go_simp; exact hK.out _ _ (Ext.refl _) rfl (FreshIf.no rfl) }) ?_
    refine RgAll.cons (by { (with_reducible refine RgL.mk (by rfl) ?_); intro v a w' hE hd hf; have d0 : (IsI 128 ((bb : Int) ^ (1 + jj))) (v 0) w' := hd 0 (by kernel_rfl); have ev0 := hf.val 0 85 _ rfl (by kernel_rfl) (by kernel_rfl) (by kernel_rfl); have d1 : v 2 = .int .i64 (1 + (jj : Int)) := hd 2 (by kernel_rfl); have ev1 := hf.val 2 87 _ d1 (by kernel_rfl) (by kernel_rfl) (by kernel_rfl); clear d1; clear hd hf; intro K hK; go_simp; go_at_call 21; go_split_ands; (with_reducible refine Calls.mono (Root_g d0 (by decide) HS0.out (1 + jj) (1 + (jj : Int)) (by omega) (by omega) (by omega) bb HR.out) ?_); rintro e w2 ⟨x, rfl, e2, hx⟩; exact hK.out _ _ e2 hx (FreshIf.no rfl) }) ?_
    refine RgAll.cons (by { (with_reducible refine RgL.mk (by rfl) ?_); intro v a w' hE hd hf; have d0 : (IsT2 (IsI 128 ((bb : Int))) (IsV (.int .i64 0))) (v 3) w' := hd 3 (by kernel_rfl); have ev0 := hf.val 3 88 _ rfl (by kernel_rfl) (by kernel_rfl) (by kernel_rfl); clear hd hf; intro K hK; go_simp; exact hK.out _ _ (Ext.refl _) d0 (FreshIf.no rfl) }) ?_
    refine RgAll.cons (by { (with_reducible refine RgL.mk (by rfl) ?_); intro v a w' hE hd hf; have d0 : (IsT2 (IsI 128 ((bb : Int))) (IsV (.int .i64 0))) (v 4) w' := hd 4 (by kernel_rfl); obtain ⟨x0, x1, z0, y0, y1⟩ := d0; have ev0 := hf.val 4 84 _ z0 (by kernel_rfl) (by kernel_rfl) (by kernel_rfl); clear z0; clear hd hf; intro K hK; go_simp; exact hK.out _ _ (Ext.refl _) y0 (FreshIf.no rfl) }) ?_
    refine RgAll.cons (by { (with_reducible refine RgL.mk (by rfl) ?_); intro v a w' hE hd hf; have d0 : (IsT2 (IsI 128 ((bb : Int))) (IsV (.int .i64 0))) (v 4) w' := hd 4 (by kernel_rfl); obtain ⟨x0, x1, z0, y0, y1⟩ := d0; have ev0 := hf.val 4 84 _ z0 (by kernel_rfl) (by kernel_rfl) (by kernel_rfl); clear z0; clear hd hf; intro K hK; go_simp; exact hK.out _ _ (Ext.refl _) y1 (FreshIf.no rfl) }) ?_
    refine RgAll.cons (by { (with_reducible refine RgL.mk (by rfl) ?_); intro v a w' hE hd hf; skip; clear hd hf; intro K hK; go_simp; refine hK.out _ _ ((Ext.refl _).alloc _) ⟨_, rfl, hE.size, Bx.new _ _ _ _ _⟩ FreshIf.yes }) ?_
    exact RgAll.nil
  intro v W15 e1 hΦ _
  replace S := S.mono e1
  obtain ⟨s89, a89, n89, c89, v5, h89⟩ := (hΦ 5 (by decide) : IsI 128 ((bb : Int)) (v 5) W15)
  have v6 : v 6 = .int .i64 0 := hΦ 6 (by decide)
  obtain ⟨g20, v7, q14, b13⟩ := (hΦ 7 (by decide) : IsB W14 (v 7) W15)
  replace S := S.addN (Apart.old hl.out q14) (Nat.le_trans hw q14) b13
  clear b13
  simp only [layL, Act.put, List.setIfInBounds_toArray, List.set_cons_zero, List.set_cons_succ, Nat.reduceAdd]
  rw [v5, v6, v7]
  clear v5 v6 v7
  clear hΦ
  clear hl hw
  clear e1
  obtain ⟨s8, a8, n8, c8, b8, _⟩ := S.at 0 (g20) (IsI 0 0) rfl; have F1 := b8.c0; have F2 := b8.c1; have F3 := b8.f0; have F4 := b8.f1
  refine wpList_step fun K hK => ?_; go_simp; refine hK _ _ ?_; clear hK K
  clear F1 F2 F3 F4 b8
  obtain ⟨W16, hW, S2, G2, _⟩ := S.put 0 (g20) (IsI 0 0) (IsI 128 ((bb : Int))) rfl s89 a89 n89 c89 (IsI.gstb _ _) ⟨_, _, _, _, rfl, h89⟩
  rw [← hW]; clear hW S
  have S : St w W16 [(g20, IsI 128 ((bb : Int))), (g18, IsI 128 ((bb : Int) ^ (1 + jj))), (g17, IsI 3 ((bb : Int))), (g15, IsI 128 (za ^ (ii + jj))), (g13, IsI 128 (za ^ (jj))), (g11, IsI 128 (za ^ (ii))), (g8, IsI 3 za), (w.heap.size, IsR s1 x1)] := S2; clear S2 G2
  clear h89
  refine wpList_step fun K hK => ?_; go_simp; refine hK _ _ ?_; clear hK K
  refine wpList_nil ?_
  go_upto_region 15 with (fail)
  refine wp_region_rgs 12 [some 91, some 92, some 93, some 94, some 95, some 96, some 97, some 98, some 99, some 100, some 101, some 102] [IsV (.int .i64 0), IsV (.bool false), IsV (.bool false), IsV (.int .i64 0), IsV (.bool false), IsV (.bool false), IsV (.bool false), IsI 128 ((bb : Int)), IsI 3 ((bb : Int)), IsV (.bool true), IsV (.bool false), IsV (.bool false)] [] (by decide) (by kernel_rfl) (by kernel_rfl) (by kernel_rfl) ?_ ?_ ?_ ?_
  · repeat' (first | exact trivial | exact IsV.stb _ | exact IsI.stb _ _ | exact IsB.stb _ | exact IsR.stb _ _ | exact IsMag.stb _ _ | exact IsPos.stb | apply IsT3.stb | apply IsT2.stb | apply And.intro)
  · exact (fun _ h => by cases h)
  · refine RgAll.cons (by { (with_reducible refine RgL.mk (by rfl) ?_); intro v a w' hE hd hf; have ev0 := hf.lit 19 (.int .i64 0) (by kernel_rfl) (by kernel_rfl); clear hd hf; intro K hK; go_simp; exact hK.out _ _ (Ext.refl _) rfl (FreshIf.no rfl) }) ?_
    refine RgAll.cons (by { (with_reducible refine RgL.mk (by rfl) ?_); intro v a w' hE hd hf; have d0 : v 0 = .int .i64 0 := hd 0 (by kernel_rfl); have ev0 := hf.val 0 91 _ d0 (by kernel_rfl) (by kernel_rfl) (by kernel_rfl); clear d0; clear hd hf; intro K hK; go_simp; exact hK.out _ _ (Ext.refl _) rfl (FreshIf.no rfl) }) ?_
    refine RgAll.cons (by { (with_reducible refine RgL.mk (by rfl) ?_); intro v a w' hE hd hf; have d0 : v 1 = .bool false := hd 1 (by kernel_rfl); have ev0 := hf.val 1 92 _ d0 (by kernel_rfl) (by kernel_rfl) (by kernel_rfl); clear d0; clear hd hf; intro K hK; go_simp; exact hK.out _ _ (Ext.refl _) rfl (FreshIf.no rfl) }) ?_
    refine RgAll.cons (by { (with_reducible refine RgL.mkG 2 93 false (by rfl) (by kernel_rfl) (by kernel_rfl) (by kernel_rfl) (by kernel_rfl) (by kernel_rfl) ?_ ?_); (focus (intro _ _ h; exact h)); intro v a w' hE hd hf; have ev0 := hf.lit 21 (.int .i64 0) (by kernel_rfl) (by kernel_rfl); clear hd hf; intro K hK; go_simp; exact hK.out _ _ (Ext.refl _) rfl (FreshIf.no rfl) }) ?_
    refine RgAll.cons (by { (with_reducible refine RgL.mkG 2 93 false (by rfl) (by kernel_rfl) (by kernel_rfl) (by kernel_rfl) (by kernel_rfl) (by kernel_rfl) ?_ ?_); (focus (intro _ _ h; exact h)); intro v a w' hE hd hf; have d0 : v 3 = .int .i64 0 := hd 3 (by kernel_rfl); have ev0 := hf.val 3 94 _ d0 (by kernel_rfl) (by kernel_rfl) (by kernel_rfl); clear d0; clear hd hf; intro K hK; go_simp; exact hK.out _ _ (Ext.refl _) rfl (FreshIf.no rfl) }) ?_
    refine RgAll.cons (by { (with_reducible refine RgL.mk (by rfl) ?_); intro v a w' hE hd hf; have d0 : v 2 = .bool false := hd 2 (by kernel_rfl); have ev0 := hf.val 2 93 _ d0 (by kernel_rfl) (by kernel_rfl) (by kernel_rfl); clear d0; have d1 : v 4 = .bool false := hd 4 (by kernel_rfl); have ev1 := hf.val 4 95 _ d1 (by kernel_rfl) (by kernel_rfl) (by kernel_rfl); clear d1; clear hd hf; intro K hK; go_simp; exact hK.out _ _ (Ext.refl _) rfl (FreshIf.no rfl) }) ?_
    refine RgAll.cons (by { (with_reducible refine RgL.mk (by rfl) ?_); intro v a w' hE hd hf; have d0 : v 5 = .bool false := hd 5 (by kernel_rfl); have ev0 := hf.val 5 96 _ d0 (by kernel_rfl) (by kernel_rfl) (by kernel_rfl); clear d0; clear hd hf; intro K hK; go_simp; exact hK.out _ _ (Ext.refl _) rfl (FreshIf.no rfl) }) ?_
    refine RgAll.cons (by { (with_reducible refine RgL.mkG 6 97 false (by rfl) (by kernel_rfl) (by kernel_rfl) (by kernel_rfl) (by kernel_rfl) (by kernel_rfl) ?_ ?_); (focus (intro _ _ h; exact h)); intro v a w' hE hd hf; have ev0 := hf.lit 20 (.pointer (some ⟨g20, 0, none⟩)) (by kernel_rfl) (by kernel_rfl); obtain ⟨s8, a8, n8, c8, b8, h8⟩ := (S.mono hE).at 0 (g20) (IsI 128 ((bb : Int))) rfl; have L0 := b8.c0; have L1 := b8.c1; clear hd hf; intro K hK; go_simp; exact hK.out _ _ (Ext.refl _) h8 (FreshIf.no rfl) }) ?_
    refine RgAll.cons (by { (with_reducible refine RgL.mkG 6 97 false (by rfl) (by kernel_rfl) (by kernel_rfl) (by kernel_rfl) (by kernel_rfl) (by kernel_rfl) ?_ ?_); (focus (intro _ _ h; exact h)); intro v a w' hE hd hf; have ev0 := hf.lit 17 (.pointer (some ⟨g17, 0, none⟩)) (by kernel_rfl) (by kernel_rfl); obtain ⟨s8, a8, n8, c8, b8, h8⟩ := (S.mono hE).at 2 (g17) (IsI 3 ((bb : Int))) rfl; have L0 := b8.c0; have L1 := b8.c1; clear hd hf; intro K hK; go_simp; exact hK.out _ _ (Ext.refl _) h8 (FreshIf.no rfl) }) ?_
    refine RgAll.cons (by { (with_reducible refine RgL.mkG 6 97 false (by rfl) (by kernel_rfl) (by kernel_rfl) (by kernel_rfl) (by kernel_rfl) (by kernel_rfl) ?_ ?_); (focus (intro _ _ h; exact h)); intro v a w' hE hd hf; have d0 : (IsI 128 ((bb : Int))) (v 7) w' := hd 7 (by kernel_rfl); have ev0 := hf.val 7 98 _ rfl (by kernel_rfl) (by kernel_rfl) (by kernel_rfl); have d1 : (IsI 3 ((bb : Int))) (v 8) w' := hd 8 (by kernel_rfl); have ev1 := hf.val 8 99 _ rfl (by kernel_rfl) (by kernel_rfl) (by kernel_rfl); clear hd hf; intro K hK; go_simp; go_at_call 14; go_split_ands; (with_reducible refine Calls.mono (Same_t d0 d1 (rfl) (by decide)) ?_); rintro e w2 ⟨x, rfl, e2, hx⟩; exact hK.out _ _ e2 hx (FreshIf.no rfl) }) ?_
    refine RgAll.cons (by { (with_reducible refine RgL.mkG 6 97 false (by rfl) (by kernel_rfl) (by kernel_rfl) (by kernel_rfl) (by kernel_rfl) (by kernel_rfl) ?_ ?_); (focus (intro _ _ h; exact h)); intro v a w' hE hd hf; have d0 : v 9 = .bool true := hd 9 (by kernel_rfl); have ev0 := hf.val 9 100 _ d0 (by kernel_rfl) (by kernel_rfl) (by kernel_rfl); clear d0; clear hd hf; intro K hK; go_simp; exact hK.out _ _ (Ext.refl _) rfl (FreshIf.no rfl) }) ?_
    refine RgAll.cons (by { (with_reducible refine RgL.mk (by rfl) ?_); intro v a w' hE hd hf; have d0 : v 6 = .bool false := hd 6 (by kernel_rfl); have ev0 := hf.val 6 97 _ d0 (by kernel_rfl) (by kernel_rfl) (by kernel_rfl); clear d0; have d1 : v 10 = .bool false := hd 10 (by kernel_rfl); have ev1 := hf.val 10 101 _ d1 (by kernel_rfl) (by kernel_rfl) (by kernel_rfl); clear d1; clear hd hf; intro K hK; go_simp; exact hK.out _ _ (Ext.refl _) rfl (FreshIf.no rfl) }) ?_
    exact RgAll.nil
  intro v W17 e1 hΦ _
  replace S := S.mono e1
  have v11 : v 11 = .bool false := hΦ 11 (by decide)
  simp only [layL, Act.put, List.setIfInBounds_toArray, List.set_cons_zero, List.set_cons_succ, Nat.reduceAdd]
  rw [v11]
  clear v11
  clear hΦ
  clear e1
  refine wpList_nil ?_
  go_upto_region 17 with (fail)
  refine wp_region_rgs 4 [some 103, some 104, some 105, some 106] [IsV (.pointer (some ⟨g17, 1, none⟩)), IsMag 3 ((bb : Int)), IsV (.int .i64 0), IsV (.bool true)] [] (by decide) (by kernel_rfl) (by kernel_rfl) (by kernel_rfl) ?_ ?_ ?_ ?_
  · repeat' (first | exact trivial | exact IsV.stb _ | exact IsI.stb _ _ | exact IsB.stb _ | exact IsR.stb _ _ | exact IsMag.stb _ _ | exact IsPos.stb | apply IsT3.stb | apply IsT2.stb | apply And.intro)
  · exact (fun _ h => by cases h)
  · refine RgAll.cons (by { (with_reducible refine RgL.mk (by rfl) ?_); intro v a w' hE hd hf; have ev0 := hf.lit 17 (.pointer (some ⟨g17, 0, none⟩)) (by kernel_rfl) (by kernel_rfl); clear hd hf; intro K hK; go_simp; exact hK.out _ _ (Ext.refl _) rfl (FreshIf.no rfl) }) ?_
    refine RgAll.cons (by { (with_reducible refine RgL.mk (by rfl) ?_); intro v a w' hE hd hf; have d0 : v 0 = .pointer (some ⟨g17, 1, none⟩) := hd 0 (by kernel_rfl); have ev0 := hf.val 0 103 _ d0 (by kernel_rfl) (by kernel_rfl) (by kernel_rfl); clear d0; obtain ⟨s8, a8, n8, c8, b8, h8⟩ := (S.mono hE).at 2 (g17) (IsI 3 ((bb : Int))) rfl; have L0 := b8.c0; have L1 := b8.c1; obtain ⟨s9, a9, n9, c9, k9, h9⟩ := h8; injection k9 with k9; simp only [Array.mk.injEq, List.cons.injEq, Value.bool.injEq, Value.slice.injEq, and_true] at k9; obtain ⟨rfl, rfl, rfl, rfl⟩ := k9; clear hd hf; intro K hK; go_simp; exact hK.out _ _ (Ext.refl _) ⟨_, _, _, _, rfl, h9⟩ (FreshIf.no rfl) }) ?_
    refine RgAll.cons (by { (with_reducible refine RgL.mk (by rfl) ?_); intro v a w' hE hd hf; have d0 : (IsMag 3 ((bb : Int))) (v 1) w' := hd 1 (by kernel_rfl); obtain ⟨s9, a9, n9, c9, z0, h9⟩ := d0; have ev0 := hf.val 1 104 _ z0 (by kernel_rfl) (by kernel_rfl) (by kernel_rfl); clear z0; obtain rfl : n9 = 0 := h9.zero_iff.1 (HZ.out); clear hd hf; intro K hK; go_simp; exact hK.out _ _ (Ext.refl _) rfl (FreshIf.no rfl) }) ?_
    refine RgAll.cons (by { (with_reducible refine RgL.mk (by rfl) ?_); intro v a w' hE hd hf; have d0 : v 2 = .int .i64 0 := hd 2 (by kernel_rfl); have ev0 := hf.val 2 105 _ d0 (by kernel_rfl) (by kernel_rfl) (by kernel_rfl); clear d0; clear hd hf; intro K hK; go_simp; exact hK.out _ _ (Ext.refl _) rfl (FreshIf.no rfl) }) ?_
    exact RgAll.nil
  intro v W18 e1 hΦ _
  replace S := S.mono e1
  have v3 : v 3 = .bool true := hΦ 3 (by decide)
  simp only [layL, Act.put, List.setIfInBounds_toArray, List.set_cons_zero, List.set_cons_succ, Nat.reduceAdd]
  rw [v3]
  clear v3
  clear hΦ
  clear e1
  refine wpList_nil ?_
  go_upto_region 18 with (fail)
  refine wp_region_rgs 2 [some 107, some 6] [IsV (.bool true), IsV (.bool true)] [] (by decide) (by kernel_rfl) (by kernel_rfl) (by kernel_rfl) ?_ ?_ ?_ ?_
  · repeat' (first | exact trivial | exact IsV.stb _ | exact IsI.stb _ _ | exact IsB.stb _ | exact IsR.stb _ _ | exact IsMag.stb _ _ | exact IsPos.stb | apply IsT3.stb | apply IsT2.stb | apply And.intro)
  · exact (fun _ h => by cases h)
  · refine RgAll.cons (by { (with_reducible refine RgL.mk (by rfl) ?_); intro v a w' hE hd hf; have ev0 := hf.lit 7 (.bool true) (by kernel_rfl) (by kernel_rfl); clear hd hf; intro K hK; go_simp; exact hK.out _ _ (Ext.refl _) rfl (FreshIf.no rfl) }) ?_
    refine RgAll.cons (by { (with_reducible refine RgL.mk (by rfl) ?_); intro v a w' hE hd hf; have d0 : v 0 = .bool true := hd 0 (by kernel_rfl); have ev0 := hf.val 0 107 _ d0 (by kernel_rfl) (by kernel_rfl) (by kernel_rfl); clear d0; clear hd hf; intro K hK; go_simp; exact hK.out _ _ (Ext.refl _) rfl (FreshIf.no rfl) }) ?_
    exact RgAll.nil
  intro v W19 e1 hΦ _
  replace S := S.mono e1
  have v1 : v 1 = .bool true := hΦ 1 (by decide)
  simp only [layL, Act.put, List.setIfInBounds_toArray, List.set_cons_zero, List.set_cons_succ, Nat.reduceAdd]
  rw [v1]
  clear v1
  clear hΦ
  clear e1
  refine wpList_nil ?_
  go_wp2_with fail
  exact bodyPost_ret (v := .bool true) (by simp [results, Tryd.results5, go_sem]) rfl (⟨_, rfl, S.ext, rfl⟩)

set_option maxRecDepth 100000 in
set_option maxHeartbeats 8000000 in
theorem Powers_1 (w : World) (s1 : Bool) (a1 : Option Addr) (n1 c1 : Nat) (x1 : List Nat) (nn kk : Int) (h1 : Wd w a1 n1 c1 x1) (ht : Tab w) (hn0 : 0 ≤ nn) (hk0 : 0 ≤ kk) (za : Int) (bb ii jj : Nat) (ha : rawZ s1 x1 3 = za) (hb : za.natAbs = bb) (hb3 : bb < 4294967296 ^ 3) (hi : nn % 13 = (ii : Int)) (hj : kk % 13 = (jj : Int)) (hi2 : ii ≤ 12) (hj2 : jj ≤ 12) (hz : bb ≠ 0) :
    Calls Tryd.prog 5 #[.agg #[.bool s1, .slice a1 n1 c1], .int .u8 nn, .int .u8 kk] w (Ret w (IsV (.bool true))) := by
  have Ha := hid ha
  have HA3 := hid (show za.natAbs < 4294967296 ^ 3 by rw [hb]; exact hb3)
  have HB3 := hid (show ((bb : Nat) : Int).natAbs < 4294967296 ^ 3 by rw [Int.natAbs_natCast]; exact hb3)
  have HBB := hid (show ((za.natAbs : Nat) : Int) = (bb : Int) by rw [hb])
  have HM := hid (show nn % 13 = (ii : Int) ∧ nn.tmod 13 = (ii : Int) ∧ kk % 13 = (jj : Int) ∧ kk.tmod 13 = (jj : Int) from ⟨hi, by rw [Int.tmod_eq_emod_of_nonneg hn0]; exact hi, hj, by rw [Int.tmod_eq_emod_of_nonneg hk0]; exact hj⟩)
  have HW := hid (show IntKind.i64.wrap ((ii : Int) + (jj : Int)) = (ii : Int) + (jj : Int) ∧ IntKind.i64.wrap (1 + (jj : Int)) = 1 + (jj : Int) from ⟨by simp only [IntKind.wrap_i64]; omega, by simp only [IntKind.wrap_i64]; omega⟩)
  have HP := hid (show za ^ ii * za ^ jj = za ^ (ii + jj) from (Int.pow_add za ii jj).symm)
  have HS0 := hid (show 0 ≤ (bb : Int) ^ (1 + jj) from Int.pow_nonneg (by omega))
  have HR := hid (show IsRoot ((bb : Int) ^ (1 + jj)).natAbs (1 + jj) bb by rw [Int.natAbs_pow, Int.natAbs_natCast]; exact ⟨Nat.le_refl _, Nat.pow_lt_pow_left (by omega) (by omega)⟩)
  have HZ := hid (show (bb : Int) ≠ 0 by omega)
  obtain ⟨d, hd⟩ : ∃ d, bb = d + 1 := ⟨bb - 1, by omega⟩
  have hcast : ((bb - 1 : Nat) : Int) = (d : Int) := by omega
  have hbd : (bb : Int) = (d : Int) + 1 := by omega
  have hsq : (bb : Int) * (bb : Int) = (d : Int) * d + 2 * d + 1 := by rw [hbd]; grind
  have hdd : 0 ≤ (d : Int) * d := Int.mul_nonneg (by omega) (by omega)
  have HQ0 := hid (show 0 ≤ (bb : Int) * (bb : Int) - 1 by omega)
  have HQR := hid (show IsRoot ((bb : Int) * (bb : Int) - 1).natAbs 2 (bb - 1) by
    have h1 : ((bb : Int) * (bb : Int) - 1).natAbs = d * d + 2 * d := by
      have h2 : ((d * d + 2 * d : Nat) : Int) = (d : Int) * d + 2 * d := by simp
      omega
    rw [h1, show bb - 1 = d by omega]
    unfold IsRoot
    rw [Nat.pow_two, Nat.pow_two]
    have h3 : (d + 1) * (d + 1) = d * d + 2 * d + 1 := by grind
    omega)
  have HC1 := hid (show ((bb - 1 : Nat) : Int) = (bb : Int) - 1 by omega)
  have HC2 := hid (show (bb : Int) * (bb : Int) - 1 - ((bb - 1 : Nat) : Int) * ((bb - 1 : Nat) : Int) = ((bb : Int) - 1) * 2 by rw [hcast, hsq, hbd]; grind)
  clear ha hb hb3 hi hj hz hd hcast hbd hsq hdd
  obtain ⟨W, hW, S⟩ : ∃ W, W = w.alloc (.cells #[.bool s1, .slice a1 n1 c1] 24) ∧ St w W [(w.heap.size, IsR s1 x1)] := ⟨_, rfl, ((St.start w).new' (w.heap.size) (by simp) s1 a1 n1 c1 24 (IsR s1 x1) (IsR.gstb _ _) ⟨_, _, _, rfl, h1⟩)⟩
  clear h1
  go_enter Tryd.func5, Tryd.ntmps5
  go_upto_region 1 with (fail)
  rw [← hW]
  clear hW
  refine wp_region_rgs 2 [some 26, some 7] [IsV (.bool true), IsV (.bool true)] [] (by decide) (by kernel_rfl) (by kernel_rfl) (by kernel_rfl) ?_ ?_ ?_ ?_
  · repeat' (first | exact trivial | exact IsV.stb _ | exact IsI.stb _ _ | exact IsB.stb _ | exact IsR.stb _ _ | exact IsMag.stb _ _ | exact IsPos.stb | apply IsT3.stb | apply IsT2.stb | apply And.intro)
  · exact (fun _ h => by cases h)
  · refine RgAll.cons (by { (with_reducible refine RgL.mk (by rfl) ?_); intro v a w' hE hd hf; skip; clear hd hf; intro K hK; go_simp; go_at_call 9; go_split_ands; (with_reducible refine Calls.mono (examples_f _ (ht.ext (S.ext.trans hE))) ?_); rintro e w2 ⟨x, rfl, e2, hx⟩; exact hK.out _ _ e2 hx (FreshIf.no rfl) }) ?_
    refine RgAll.cons (by { (with_reducible refine RgL.mk (by rfl) ?_); intro v a w' hE hd hf; have d0 : v 0 = .bool true := hd 0 (by kernel_rfl); have ev0 := hf.val 0 26 _ d0 (by kernel_rfl) (by kernel_rfl) (by kernel_rfl); clear d0; clear hd hf; intro K hK; go_simp; exact hK.out _ _ (Ext.refl _) rfl (FreshIf.no rfl) }) ?_
    exact RgAll.nil
  intro v W1 e1 hΦ _
  replace S := S.mono e1
  have v1 : v 1 = .bool true := hΦ 1 (by decide)
  simp only [layL, Act.put, List.setIfInBounds_toArray, List.set_cons_zero, List.set_cons_succ, Nat.reduceAdd]
  rw [v1]
  clear v1
  clear hΦ
  clear e1
  refine wpList_nil ?_
  go_upto_region 4 with (fail)
  have hl := hid S.lt; have hw := S.ext.size
  refine wp_region_rgs 3 [some 29, some 30, some 8] [IsR s1 x1, IsI 3 za, IsB W1] [2] (by decide) (by kernel_rfl) (by kernel_rfl) (by kernel_rfl) ?_ ?_ ?_ ?_
  · repeat' (first | exact trivial | exact IsV.stb _ | exact IsI.stb _ _ | exact IsB.stb _ | exact IsR.stb _ _ | exact IsMag.stb _ _ | exact IsPos.stb | apply IsT3.stb | apply IsT2.stb | apply And.intro)
  · intro i hi; simp only [List.mem_cons, List.not_mem_nil, or_false] at hi; subst hi; exact IsB.box _
  · refine RgAll.cons (by { (with_reducible refine RgL.mk (by rfl) ?_); intro v a w' hE hd hf; have ev0 := hf.lit 3 (.pointer (some ⟨w.heap.size, 0, none⟩)) (by kernel_rfl) (by kernel_rfl); obtain ⟨s8, a8, n8, c8, b8, h8⟩ := (S.mono hE).at 0 (w.heap.size) (IsR s1 x1) rfl; have L0 := b8.c0; have L1 := b8.c1; clear hd hf; intro K hK; go_simp; exact hK.out _ _ (Ext.refl _) h8 (FreshIf.no rfl) }) ?_
    refine RgAll.cons (by { (with_reducible refine RgL.mk (by rfl) ?_); intro v a w' hE hd hf; have d0 : (IsR s1 x1) (v 0) w' := hd 0 (by kernel_rfl); have ev0 := hf.val 0 29 _ rfl (by kernel_rfl) (by kernel_rfl) (by kernel_rfl); clear hd hf; intro K hK; go_simp; go_at_call 10; go_split_ands; (with_reducible refine Calls.mono (Calls.mono (Made_f d0 (by decide)) fun _ _ h => h.eqz Ha.out) ?_); rintro e w2 ⟨x, rfl, e2, hx⟩; exact hK.out _ _ e2 hx (FreshIf.no rfl) }) ?_
    refine RgAll.cons (by { (with_reducible refine RgL.mk (by rfl) ?_); intro v a w' hE hd hf; skip; clear hd hf; intro K hK; go_simp; refine hK.out _ _ ((Ext.refl _).alloc _) ⟨_, rfl, hE.size, Bx.new _ _ _ _ _⟩ FreshIf.yes }) ?_
    exact RgAll.nil
  intro v W2 e1 hΦ _
  replace S := S.mono e1
  obtain ⟨s30, a30, n30, c30, v1, h30⟩ := (hΦ 1 (by decide) : IsI 3 za (v 1) W2)
  obtain ⟨g8, v2, q2, b1⟩ := (hΦ 2 (by decide) : IsB W1 (v 2) W2)
  replace S := S.addN (Apart.old hl.out q2) (Nat.le_trans hw q2) b1
  clear b1
  simp only [layL, Act.put, List.setIfInBounds_toArray, List.set_cons_zero, List.set_cons_succ, Nat.reduceAdd]
  rw [v1, v2]
  clear v1 v2
  clear hΦ
  clear hl hw
  clear e1
  obtain ⟨s8, a8, n8, c8, b8, _⟩ := S.at 0 (g8) (IsI 0 0) rfl; have F1 := b8.c0; have F2 := b8.c1; have F3 := b8.f0; have F4 := b8.f1
  refine wpList_step fun K hK => ?_; go_simp; refine hK _ _ ?_; clear hK K
  clear F1 F2 F3 F4 b8
  obtain ⟨W3, hW, S2, G2, _⟩ := S.put 0 (g8) (IsI 0 0) (IsI 3 za) rfl s30 a30 n30 c30 (IsI.gstb _ _) ⟨_, _, _, _, rfl, h30⟩
  rw [← hW]; clear hW S
  have S : St w W3 [(g8, IsI 3 za), (w.heap.size, IsR s1 x1)] := S2; clear S2 G2
  clear h30
  refine wpList_nil ?_
  have hm1 := HM.out.1; have hm2 := HM.out.2.1; have hm3 := HM.out.2.2.1; have hm4 := HM.out.2.2.2
  go_upto_region 7 with (fail)
  clear hm1 hm2 hm3 hm4
  have hl := hid S.lt; have hw := S.ext.size
  refine wp_region_rgs 7 [some 38, some 39, some 40, some 37, some 41, some 42, some 11] [IsI 3 za, IsV (.int .i64 (ii : Int)), IsT2 (IsI 128 (za ^ (ii))) (IsV (.int .i64 0)), IsT2 (IsI 128 (za ^ (ii))) (IsV (.int .i64 0)), IsI 128 (za ^ (ii)), IsV (.int .i64 0), IsB W3] [6] (by decide) (by kernel_rfl) (by kernel_rfl) (by kernel_rfl) ?_ ?_ ?_ ?_
  · repeat' (first | exact trivial | exact IsV.stb _ | exact IsI.stb _ _ | exact IsB.stb _ | exact IsR.stb _ _ | exact IsMag.stb _ _ | exact IsPos.stb | apply IsT3.stb | apply IsT2.stb | apply And.intro)
  · intro i hi; simp only [List.mem_cons, List.not_mem_nil, or_false] at hi; subst hi; exact IsB.box _
  · refine RgAll.cons (by { (with_reducible refine RgL.mk (by rfl) ?_); intro v a w' hE hd hf; have ev0 := hf.lit 8 (.pointer (some ⟨g8, 0, none⟩)) (by kernel_rfl) (by kernel_rfl); obtain ⟨s8, a8, n8, c8, b8, h8⟩ := (S.mono hE).at 0 (g8) (IsI 3 za) rfl; have L0 := b8.c0; have L1 := b8.c1; clear hd hf; intro K hK; go_simp; exact hK.out _ _ (Ext.refl _) h8 (FreshIf.no rfl) }) ?_
    refine RgAll.cons (by { (with_reducible refine RgL.mk (by rfl) ?_); intro v a w' hE hd hf; have ev0 := hf.lit 9 (.int .i64 (ii : Int)) (by kernel_rfl) (by kernel_rfl); clear hd hf; intro K hK; go_simp; exact hK.out _ _ (Ext.refl _) rfl (FreshIf.no rfl) }) ?_
    refine RgAll.cons (by { (with_reducible refine RgL.mk (by rfl) ?_); intro v a w' hE hd hf; have d0 : (IsI 3 za) (v 0) w' := hd 0 (by kernel_rfl); have ev0 := hf.val 0 38 _ rfl (by kernel_rfl) (by kernel_rfl) (by kernel_rfl); have d1 : v 1 = .int .i64 (ii : Int) := hd 1 (by kernel_rfl); have ev1 := hf.val 1 39 _ d1 (by kernel_rfl) (by kernel_rfl) (by kernel_rfl); clear d1; clear hd hf; intro K hK; go_simp; go_at_call 20; go_split_ands; (with_reducible refine Calls.mono (Pow_g d0 (by decide) (ii) (ii : Int) (by omega) (by omega) (pow_small _ _ HA3.out (by omega))) ?_); rintro e w2 ⟨x, rfl, e2, hx⟩; exact hK.out _ _ e2 hx (FreshIf.no rfl) }) ?_
    refine RgAll.cons (by { (with_reducible refine RgL.mk (by rfl) ?_); intro v a w' hE hd hf; have d0 : (IsT2 (IsI 128 (za ^ (ii))) (IsV (.int .i64 0))) (v 2) w' := hd 2 (by kernel_rfl); have ev0 := hf.val 2 40 _ rfl (by kernel_rfl) (by kernel_rfl) (by kernel_rfl); clear hd hf; intro K hK; go_simp; exact hK.out _ _ (Ext.refl _) d0 (FreshIf.no rfl) }) ?_
    refine RgAll.cons (by { (with_reducible refine RgL.mk (by rfl) ?_); intro v a w' hE hd hf; have d0 : (IsT2 (IsI 128 (za ^ (ii))) (IsV (.int .i64 0))) (v 3) w' := hd 3 (by kernel_rfl); obtain ⟨x0, x1, z0, y0, y1⟩ := d0; have ev0 := hf.val 3 37 _ z0 (by kernel_rfl) (by kernel_rfl) (by kernel_rfl); clear z0; clear hd hf; intro K hK; go_simp; exact hK.out _ _ (Ext.refl _) y0 (FreshIf.no rfl) }) ?_
    refine RgAll.cons (by { (with_reducible refine RgL.mk (by rfl) ?_); intro v a w' hE hd hf; have d0 : (IsT2 (IsI 128 (za ^ (ii))) (IsV (.int .i64 0))) (v 3) w' := hd 3 (by kernel_rfl); obtain ⟨x0, x1, z0, y0, y1⟩ := d0; have ev0 := hf.val 3 37 _ z0 (by kernel_rfl) (by kernel_rfl) (by kernel_rfl); clear z0; clear hd hf; intro K hK; go_simp; exact hK.out _ _ (Ext.refl _) y1 (FreshIf.no rfl) }) ?_
    refine RgAll.cons (by { (with_reducible refine RgL.mk (by rfl) ?_); intro v a w' hE hd hf; skip; clear hd hf; intro K hK; go_simp; refine hK.out _ _ ((Ext.refl _).alloc _) ⟨_, rfl, hE.size, Bx.new _ _ _ _ _⟩ FreshIf.yes }) ?_
    exact RgAll.nil
  intro v W4 e1 hΦ _
  replace S := S.mono e1
  obtain ⟨s41, a41, n41, c41, v4, h41⟩ := (hΦ 4 (by decide) : IsI 128 (za ^ (ii)) (v 4) W4)
  have v5 : v 5 = .int .i64 0 := hΦ 5 (by decide)
  obtain ⟨g11, v6, q4, b3⟩ := (hΦ 6 (by decide) : IsB W3 (v 6) W4)
  replace S := S.addN (Apart.old hl.out q4) (Nat.le_trans hw q4) b3
  clear b3
  simp only [layL, Act.put, List.setIfInBounds_toArray, List.set_cons_zero, List.set_cons_succ, Nat.reduceAdd]
  rw [v4, v5, v6]
  clear v4 v5 v6
  clear hΦ
  clear hl hw
  clear e1
  obtain ⟨s8, a8, n8, c8, b8, _⟩ := S.at 0 (g11) (IsI 0 0) rfl; have F1 := b8.c0; have F2 := b8.c1; have F3 := b8.f0; have F4 := b8.f1
  refine wpList_step fun K hK => ?_; go_simp; refine hK _ _ ?_; clear hK K
  clear F1 F2 F3 F4 b8
  obtain ⟨W5, hW, S2, G2, _⟩ := S.put 0 (g11) (IsI 0 0) (IsI 128 (za ^ (ii))) rfl s41 a41 n41 c41 (IsI.gstb _ _) ⟨_, _, _, _, rfl, h41⟩
  rw [← hW]; clear hW S
  have S : St w W5 [(g11, IsI 128 (za ^ (ii))), (g8, IsI 3 za), (w.heap.size, IsR s1 x1)] := S2; clear S2 G2
  clear h41
  refine wpList_step fun K hK => ?_; go_simp; refine hK _ _ ?_; clear hK K
  refine wpList_nil ?_
  go_upto_region 8 with (fail)
  have hl := hid S.lt; have hw := S.ext.size
  refine wp_region_rgs 7 [some 44, some 45, some 46, some 43, some 47, some 48, some 13] [IsI 3 za, IsV (.int .i64 (jj : Int)), IsT2 (IsI 128 (za ^ (jj))) (IsV (.int .i64 0)), IsT2 (IsI 128 (za ^ (jj))) (IsV (.int .i64 0)), IsI 128 (za ^ (jj)), IsV (.int .i64 0), IsB W5] [6] (by decide) (by kernel_rfl) (by kernel_rfl) (by kernel_rfl) ?_ ?_ ?_ ?_
  · repeat' (first | exact trivial | exact IsV.stb _ | exact IsI.stb _ _ | exact IsB.stb _ | exact IsR.stb _ _ | exact IsMag.stb _ _ | exact IsPos.stb | apply IsT3.stb | apply IsT2.stb | apply And.intro)
  · intro i hi; simp only [List.mem_cons, List.not_mem_nil, or_false] at hi; subst hi; exact IsB.box _
  · refine RgAll.cons (by { (with_reducible refine RgL.mk (by rfl) ?_); intro v a w' hE hd hf; have ev0 := hf.lit 8 (.pointer (some ⟨g8, 0, none⟩)) (by kernel_rfl) (by kernel_rfl); obtain ⟨s8, a8, n8, c8, b8, h8⟩ := (S.mono hE).at 1 (g8) (IsI 3 za) rfl; have L0 := b8.c0; have L1 := b8.c1; clear hd hf; intro K hK; go_simp; exact hK.out _ _ (Ext.refl _) h8 (FreshIf.no rfl) }) ?_
    refine RgAll.cons (by { (with_reducible refine RgL.mk (by rfl) ?_); intro v a w' hE hd hf; have ev0 := hf.lit 10 (.int .i64 (jj : Int)) (by kernel_rfl) (by kernel_rfl); clear hd hf; intro K hK; go_simp; exact hK.out _ _ (Ext.refl _) rfl (FreshIf.no rfl) }) ?_
    refine RgAll.cons (by { (with_reducible refine RgL.mk (by rfl) ?_); intro v a w' hE hd hf; have d0 : (IsI 3 za) (v 0) w' := hd 0 (by kernel_rfl); have ev0 := hf.val 0 44 _ rfl (by kernel_rfl) (by kernel_rfl) (by kernel_rfl); have d1 : v 1 = .int .i64 (jj : Int) := hd 1 (by kernel_rfl); have ev1 := hf.val 1 45 _ d1 (by kernel_rfl) (by kernel_rfl) (by kernel_rfl); clear d1; clear hd hf; intro K hK; go_simp; go_at_call 20; go_split_ands; (with_reducible refine Calls.mono (Pow_g d0 (by decide) (jj) (jj : Int) (by omega) (by omega) (pow_small _ _ HA3.out (by omega))) ?_); rintro e w2 ⟨x, rfl, e2, hx⟩; exact hK.out _ _ e2 hx (FreshIf.no rfl) }) ?_
    refine RgAll.cons (by { (with_reducible refine RgL.mk (by rfl) ?_); intro v a w' hE hd hf; have d0 : (IsT2 (IsI 128 (za ^ (jj))) (IsV (.int .i64 0))) (v 2) w' := hd 2 (by kernel_rfl); have ev0 := hf.val 2 46 _ rfl (by kernel_rfl) (by kernel_rfl) (by kernel_rfl); clear hd hf; intro K hK; go_simp; exact hK.out _ _ (Ext.refl _) d0 (FreshIf.no rfl) }) ?_
    refine RgAll.cons (by { (with_reducible refine RgL.mk (by rfl) ?_); intro v a w' hE hd hf; have d0 : (IsT2 (IsI 128 (za ^ (jj))) (IsV (.int .i64 0))) (v 3) w' := hd 3 (by kernel_rfl); obtain ⟨x0, x1, z0, y0, y1⟩ := d0; have ev0 := hf.val 3 43 _ z0 (by kernel_rfl) (by kernel_rfl) (by kernel_rfl); clear z0; clear hd hf; intro K hK; go_simp; exact hK.out _ _ (Ext.refl _) y0 (FreshIf.no rfl) }) ?_
    refine RgAll.cons (by { (with_reducible refine RgL.mk (by rfl) ?_); intro v a w' hE hd hf; have d0 : (IsT2 (IsI 128 (za ^ (jj))) (IsV (.int .i64 0))) (v 3) w' := hd 3 (by kernel_rfl); obtain ⟨x0, x1, z0, y0, y1⟩ := d0; have ev0 := hf.val 3 43 _ z0 (by kernel_rfl) (by kernel_rfl) (by kernel_rfl); clear z0; clear hd hf; intro K hK; go_simp; exact hK.out _ _ (Ext.refl _) y1 (FreshIf.no rfl) }) ?_
    refine RgAll.cons (by { (with_reducible refine RgL.mk (by rfl) ?_); intro v a w' hE hd hf; skip; clear hd hf; intro K hK; go_simp; refine hK.out _ _ ((Ext.refl _).alloc _) ⟨_, rfl, hE.size, Bx.new _ _ _ _ _⟩ FreshIf.yes }) ?_
    exact RgAll.nil
  intro v W6 e1 hΦ _
  replace S := S.mono e1
  obtain ⟨s47, a47, n47, c47, v4, h47⟩ := (hΦ 4 (by decide) : IsI 128 (za ^ (jj)) (v 4) W6)
  have v5 : v 5 = .int .i64 0 := hΦ 5 (by decide)
  obtain ⟨g13, v6, q6, b5⟩ := (hΦ 6 (by decide) : IsB W5 (v 6) W6)
  replace S := S.addN (Apart.old hl.out q6) (Nat.le_trans hw q6) b5
  clear b5
  simp only [layL, Act.put, List.setIfInBounds_toArray, List.set_cons_zero, List.set_cons_succ, Nat.reduceAdd]
  rw [v4, v5, v6]
  clear v4 v5 v6
  clear hΦ
  clear hl hw
  clear e1
  obtain ⟨s8, a8, n8, c8, b8, _⟩ := S.at 0 (g13) (IsI 0 0) rfl; have F1 := b8.c0; have F2 := b8.c1; have F3 := b8.f0; have F4 := b8.f1
  refine wpList_step fun K hK => ?_; go_simp; refine hK _ _ ?_; clear hK K
  clear F1 F2 F3 F4 b8
  obtain ⟨W7, hW, S2, G2, _⟩ := S.put 0 (g13) (IsI 0 0) (IsI 128 (za ^ (jj))) rfl s47 a47 n47 c47 (IsI.gstb _ _) ⟨_, _, _, _, rfl, h47⟩
  rw [← hW]; clear hW S
  have S : St w W7 [(g13, IsI 128 (za ^ (jj))), (g11, IsI 128 (za ^ (ii))), (g8, IsI 3 za), (w.heap.size, IsR s1 x1)] := S2; clear S2 G2
  clear h47
  refine wpList_step fun K hK => ?_; go_simp; refine hK _ _ ?_; clear hK K
  refine wpList_nil ?_
  go_upto_region 9 with (fail)
  have hl := hid S.lt; have hw := S.ext.size
  refine wp_region_rgs 9 [some 50, some 51, some 52, some 53, some 54, some 49, some 55, some 56, some 15] [IsI 3 za, IsV (.int .i64 (ii : Int)), IsV (.int .i64 (jj : Int)), IsV (.int .i64 ((ii : Int) + (jj : Int))), IsT2 (IsI 128 (za ^ (ii + jj))) (IsV (.int .i64 0)), IsT2 (IsI 128 (za ^ (ii + jj))) (IsV (.int .i64 0)), IsI 128 (za ^ (ii + jj)), IsV (.int .i64 0), IsB W7] [8] (by decide) (by kernel_rfl) (by kernel_rfl) (by kernel_rfl) ?_ ?_ ?_ ?_
  · repeat' (first | exact trivial | exact IsV.stb _ | exact IsI.stb _ _ | exact IsB.stb _ | exact IsR.stb _ _ | exact IsMag.stb _ _ | exact IsPos.stb | apply IsT3.stb | apply IsT2.stb | apply And.intro)
  · intro i hi; simp only [List.mem_cons, List.not_mem_nil, or_false] at hi; subst hi; exact IsB.box _
  · refine RgAll.cons (by { (with_reducible refine RgL.mk (by rfl) ?_); intro v a w' hE hd hf; have ev0 := hf.lit 8 (.pointer (some ⟨g8, 0, none⟩)) (by kernel_rfl) (by kernel_rfl); obtain ⟨s8, a8, n8, c8, b8, h8⟩ := (S.mono hE).at 2 (g8) (IsI 3 za) rfl; have L0 := b8.c0; have L1 := b8.c1; clear hd hf; intro K hK; go_simp; exact hK.out _ _ (Ext.refl _) h8 (FreshIf.no rfl) }) ?_
    refine RgAll.cons (by { (with_reducible refine RgL.mk (by rfl) ?_); intro v a w' hE hd hf; have ev0 := hf.lit 9 (.int .i64 (ii : Int)) (by kernel_rfl) (by kernel_rfl); clear hd hf; intro K hK; go_simp; exact hK.out _ _ (Ext.refl _) rfl (FreshIf.no rfl) }) ?_
    refine RgAll.cons (by { (with_reducible refine RgL.mk (by rfl) ?_); intro v a w' hE hd hf; have ev0 := hf.lit 10 (.int .i64 (jj : Int)) (by kernel_rfl) (by kernel_rfl); clear hd hf; intro K hK; go_simp; exact hK.out _ _ (Ext.refl _) rfl (FreshIf.no rfl) }) ?_
    refine RgAll.cons (by { (with_reducible refine RgL.mk (by rfl) ?_); intro v a w' hE hd hf; have d0 : v 1 = .int .i64 (ii : Int) := hd 1 (by kernel_rfl); have ev0 := hf.val 1 51 _ d0 (by kernel_rfl) (by kernel_rfl) (by kernel_rfl); clear d0; have d1 : v 2 = .int .i64 (jj : Int) := hd 2 (by kernel_rfl); have ev1 := hf.val 2 52 _ d1 (by kernel_rfl) (by kernel_rfl) (by kernel_rfl); clear d1; have hw9 := HW.out.1; clear hd hf; intro K hK; go_simp; exact hK.out _ _ (Ext.refl _) rfl (FreshIf.no rfl) }) ?_
    refine RgAll.cons (by { (with_reducible refine RgL.mk (by rfl) ?_); intro v a w' hE hd hf; have d0 : (IsI 3 za) (v 0) w' := hd 0 (by kernel_rfl); have ev0 := hf.val 0 50 _ rfl (by kernel_rfl) (by kernel_rfl) (by kernel_rfl); have d1 : v 3 = .int .i64 ((ii : Int) + (jj : Int)) := hd 3 (by kernel_rfl); have ev1 := hf.val 3 53 _ d1 (by kernel_rfl) (by kernel_rfl) (by kernel_rfl); clear d1; clear hd hf; intro K hK; go_simp; go_at_call 20; go_split_ands; (with_reducible refine Calls.mono (Pow_g d0 (by decide) (ii + jj) ((ii : Int) + (jj : Int)) (by omega) (by omega) (pow_small _ _ HA3.out (by omega))) ?_); rintro e w2 ⟨x, rfl, e2, hx⟩; exact hK.out _ _ e2 hx (FreshIf.no rfl) }) ?_
    refine RgAll.cons (by { (with_reducible refine RgL.mk (by rfl) ?_); intro v a w' hE hd hf; have d0 : (IsT2 (IsI 128 (za ^ (ii + jj))) (IsV (.int .i64 0))) (v 4) w' := hd 4 (by kernel_rfl); have ev0 := hf.val 4 54 _ rfl (by kernel_rfl) (by kernel_rfl) (by kernel_rfl); clear hd hf; intro K hK; go_simp; exact hK.out _ _ (Ext.refl _) d0 (FreshIf.no rfl) }) ?_
    refine RgAll.cons (by { (with_reducible refine RgL.mk (by rfl) ?_); intro v a w' hE hd hf; have d0 : (IsT2 (IsI 128 (za ^ (ii + jj))) (IsV (.int .i64 0))) (v 5) w' := hd 5 (by kernel_rfl); obtain ⟨x0, x1, z0, y0, y1⟩ := d0; have ev0 := hf.val 5 49 _ z0 (by kernel_rfl) (by kernel_rfl) (by kernel_rfl); clear z0; clear hd hf; intro K hK; go_simp; exact hK.out _ _ (Ext.refl _) y0 (FreshIf.no rfl) }) ?_
    refine RgAll.cons (by { (with_reducible refine RgL.mk (by rfl) ?_); intro v a w' hE hd hf; have d0 : (IsT2 (IsI 128 (za ^ (ii + jj))) (IsV (.int .i64 0))) (v 5) w' := hd 5 (by kernel_rfl); obtain ⟨x0, x1, z0, y0, y1⟩ := d0; have ev0 := hf.val 5 49 _ z0 (by kernel_rfl) (by kernel_rfl) (by kernel_rfl); clear z0; clear hd hf; intro K hK; go_simp; exact hK.out _ _ (Ext.refl _) y1 (FreshIf.no rfl) }) ?_
    refine RgAll.cons (by { (with_reducible refine RgL.mk (by rfl) ?_); intro v a w' hE hd hf; skip; clear hd hf; intro K hK; go_simp; refine hK.out _ _ ((Ext.refl _).alloc _) ⟨_, rfl, hE.size, Bx.new _ _ _ _ _⟩ FreshIf.yes }) ?_
    exact RgAll.nil
  intro v W8 e1 hΦ _
  replace S := S.mono e1
  obtain ⟨s55, a55, n55, c55, v6, h55⟩ := (hΦ 6 (by decide) : IsI 128 (za ^ (ii + jj)) (v 6) W8)
  have v7 : v 7 = .int .i64 0 := hΦ 7 (by decide)
  obtain ⟨g15, v8, q8, b7⟩ := (hΦ 8 (by decide) : IsB W7 (v 8) W8)
  replace S := S.addN (Apart.old hl.out q8) (Nat.le_trans hw q8) b7
  clear b7
  simp only [layL, Act.put, List.setIfInBounds_toArray, List.set_cons_zero, List.set_cons_succ, Nat.reduceAdd]
  rw [v6, v7, v8]
  clear v6 v7 v8
  clear hΦ
  clear hl hw
  clear e1
  obtain ⟨s8, a8, n8, c8, b8, _⟩ := S.at 0 (g15) (IsI 0 0) rfl; have F1 := b8.c0; have F2 := b8.c1; have F3 := b8.f0; have F4 := b8.f1
  refine wpList_step fun K hK => ?_; go_simp; refine hK _ _ ?_; clear hK K
  clear F1 F2 F3 F4 b8
  obtain ⟨W9, hW, S2, G2, _⟩ := S.put 0 (g15) (IsI 0 0) (IsI 128 (za ^ (ii + jj))) rfl s55 a55 n55 c55 (IsI.gstb _ _) ⟨_, _, _, _, rfl, h55⟩
  rw [← hW]; clear hW S
  have S : St w W9 [(g15, IsI 128 (za ^ (ii + jj))), (g13, IsI 128 (za ^ (jj))), (g11, IsI 128 (za ^ (ii))), (g8, IsI 3 za), (w.heap.size, IsR s1 x1)] := S2; clear S2 G2
  clear h55
  refine wpList_step fun K hK => ?_; go_simp; refine hK _ _ ?_; clear hK K
  refine wpList_nil ?_
  go_upto_region 10 with (fail)
  refine wp_region_rg 18 [some 57, some 58, some 59, some 60, some 61, some 62, some 63, some 64, some 65, some 66, some 67, some 68, some 69, some 70, some 71, some 72, some 73, some 74] [IsV (.int .i64 0), IsV (.bool false), IsV (.bool false), IsV (.int .i64 0), IsV (.bool false), IsV (.bool false), IsV (.bool false), IsV (.int .i64 0), IsV (.bool false), IsV (.bool false), IsV (.bool false), IsI 128 (za ^ (ii)), IsI 128 (za ^ (jj)), IsI 256 ((za ^ (ii)) * (za ^ (jj))), IsI 128 (za ^ (ii + jj)), IsV (.bool true), IsV (.bool false), IsV (.bool false)] [] 0 (by kernel_rfl) (by decide) (by kernel_rfl) (by kernel_rfl) (by kernel_rfl) (by kernel_rfl) (by kernel_rfl) ?_ ?_ ?_ ?_
  · repeat' (first | exact trivial | exact IsV.stb _ | exact IsI.stb _ _ | exact IsB.stb _ | exact IsR.stb _ _ | exact IsMag.stb _ _ | exact IsPos.stb | apply IsT3.stb | apply IsT2.stb | apply And.intro)
  · exact (fun _ h => by cases h)
  · refine RgAll.cons (by { (with_reducible refine RgL.mk (by rfl) ?_); intro v a w' hE hd hf; have ev0 := hf.lit 12 (.int .i64 0) (by kernel_rfl) (by kernel_rfl); clear hd hf; intro K hK; go_simp; exact hK.out _ _ (Ext.refl _) rfl (FreshIf.no rfl) }) ?_
    refine RgAll.cons (by { (with_reducible refine RgL.mk (by rfl) ?_); intro v a w' hE hd hf; have d0 : v 0 = .int .i64 0 := hd 0 (by kernel_rfl); have ev0 := hf.val 0 57 _ d0 (by kernel_rfl) (by kernel_rfl) (by kernel_rfl); clear d0; clear hd hf; intro K hK; go_simp; exact hK.out _ _ (Ext.refl _) rfl (FreshIf.no rfl) }) ?_
    refine RgAll.cons (by { (with_reducible refine RgL.mk (by rfl) ?_); intro v a w' hE hd hf; have d0 : v 1 = .bool false := hd 1 (by kernel_rfl); have ev0 := hf.val 1 58 _ d0 (by kernel_rfl) (by kernel_rfl) (by kernel_rfl); clear d0; clear hd hf; intro K hK; go_simp; exact hK.out _ _ (Ext.refl _) rfl (FreshIf.no rfl) }) ?_
    refine RgAll.cons (by { (with_reducible refine RgL.mkG 2 59 false (by rfl) (by kernel_rfl) (by kernel_rfl) (by kernel_rfl) (by kernel_rfl) (by kernel_rfl) ?_ ?_); (focus (intro _ _ h; exact h)); intro v a w' hE hd hf; have ev0 := hf.lit 14 (.int .i64 0) (by kernel_rfl) (by kernel_rfl); clear hd hf; intro K hK; go_simp; exact hK.out _ _ (Ext.refl _) rfl (FreshIf.no rfl) }) ?_
    refine RgAll.cons (by { (with_reducible refine RgL.mkG 2 59 false (by rfl) (by kernel_rfl) (by kernel_rfl) (by kernel_rfl) (by kernel_rfl) (by kernel_rfl) ?_ ?_); (focus (intro _ _ h; exact h)); intro v a w' hE hd hf; have d0 : v 3 = .int .i64 0 := hd 3 (by kernel_rfl); have ev0 := hf.val 3 60 _ d0 (by kernel_rfl) (by kernel_rfl) (by kernel_rfl); clear d0; clear hd hf; intro K hK; go_simp; exact hK.out _ _ (Ext.refl _) rfl (FreshIf.no rfl) }) ?_
    refine RgAll.cons (by { (with_reducible refine RgL.mk (by rfl) ?_); intro v a w' hE hd hf; have d0 : v 2 = .bool false := hd 2 (by kernel_rfl); have ev0 := hf.val 2 59 _ d0 (by kernel_rfl) (by kernel_rfl) (by kernel_rfl); clear d0; have d1 : v 4 = .bool false := hd 4 (by kernel_rfl); have ev1 := hf.val 4 61 _ d1 (by kernel_rfl) (by kernel_rfl) (by kernel_rfl); clear d1; clear hd hf; intro K hK; go_simp; exact hK.out _ _ (Ext.refl _) rfl (FreshIf.no rfl) }) ?_
    refine RgAll.cons (by { (with_reducible refine RgL.mk (by rfl) ?_); intro v a w' hE hd hf; have d0 : v 5 = .bool false := hd 5 (by kernel_rfl); have ev0 := hf.val 5 62 _ d0 (by kernel_rfl) (by kernel_rfl) (by kernel_rfl); clear d0; clear hd hf; intro K hK; go_simp; exact hK.out _ _ (Ext.refl _) rfl (FreshIf.no rfl) }) ?_
    refine RgAll.cons (by { (with_reducible refine RgL.mkG 6 63 false (by rfl) (by kernel_rfl) (by kernel_rfl) (by kernel_rfl) (by kernel_rfl) (by kernel_rfl) ?_ ?_); (focus (intro _ _ h; exact h)); intro v a w' hE hd hf; have ev0 := hf.lit 16 (.int .i64 0) (by kernel_rfl) (by kernel_rfl); clear hd hf; intro K hK; go_simp; exact hK.out _ _ (Ext.refl _) rfl (FreshIf.no rfl) }) ?_
    refine RgAll.cons (by { (with_reducible refine RgL.mkG 6 63 false (by rfl) (by kernel_rfl) (by kernel_rfl) (by kernel_rfl) (by kernel_rfl) (by kernel_rfl) ?_ ?_); (focus (intro _ _ h; exact h)); intro v a w' hE hd hf; have d0 : v 7 = .int .i64 0 := hd 7 (by kernel_rfl); have ev0 := hf.val 7 64 _ d0 (by kernel_rfl) (by kernel_rfl) (by kernel_rfl); clear d0; clear hd hf; intro K hK; go_simp; exact hK.out _ _ (Ext.refl _) rfl (FreshIf.no rfl) }) ?_
    refine RgAll.cons (by { (with_reducible refine RgL.mk (by rfl) ?_); intro v a w' hE hd hf; have d0 : v 6 = .bool false := hd 6 (by kernel_rfl); have ev0 := hf.val 6 63 _ d0 (by kernel_rfl) (by kernel_rfl) (by kernel_rfl); clear d0; have d1 : v 8 = .bool false := hd 8 (by kernel_rfl); have ev1 := hf.val 8 65 _ d1 (by kernel_rfl) (by kernel_rfl) (by kernel_rfl); clear d1; clear hd hf; intro K hK; go_simp; exact hK.out _ _ (Ext.refl _) rfl (FreshIf.no rfl) }) ?_
    refine RgAll.cons (by { (with_reducible refine RgL.mk (by rfl) ?_); intro v a w' hE hd hf; have d0 : v 9 = .bool false := hd 9 (by kernel_rfl); have ev0 := hf.val 9 66 _ d0 (by kernel_rfl) (by kernel_rfl) (by kernel_rfl); clear d0; clear hd hf; intro K hK; go_simp; exact hK.out _ _ (Ext.refl _) rfl (FreshIf.no rfl) }) ?_
    refine RgAll.cons (by { (with_reducible refine RgL.mkG 10 67 false (by rfl) (by kernel_rfl) (by kernel_rfl) (by kernel_rfl) (by kernel_rfl) (by kernel_rfl) ?_ ?_); (focus (intro _ _ h; exact h)); intro v a w' hE hd hf; have ev0 := hf.lit 11 (.pointer (some ⟨g11, 0, none⟩)) (by kernel_rfl) (by kernel_rfl); obtain ⟨s8, a8, n8, c8, b8, h8⟩ := (S.mono hE).at 2 (g11) (IsI 128 (za ^ (ii))) rfl; have L0 := b8.c0; have L1 := b8.c1; clear hd hf; intro K hK; go_simp; exact hK.out _ _ (Ext.refl _) h8 (FreshIf.no rfl) }) ?_
    refine RgAll.cons (by { (with_reducible refine RgL.mkG 10 67 false (by rfl) (by kernel_rfl) (by kernel_rfl) (by kernel_rfl) (by kernel_rfl) (by kernel_rfl) ?_ ?_); (focus (intro _ _ h; exact h)); intro v a w' hE hd hf; have ev0 := hf.lit 13 (.pointer (some ⟨g13, 0, none⟩)) (by kernel_rfl) (by kernel_rfl); obtain ⟨s8, a8, n8, c8, b8, h8⟩ := (S.mono hE).at 1 (g13) (IsI 128 (za ^ (jj))) rfl; have L0 := b8.c0; have L1 := b8.c1; clear hd hf; intro K hK; go_simp; exact hK.out _ _ (Ext.refl _) h8 (FreshIf.no rfl) }) ?_
    refine RgAll.cons (by { (with_reducible refine RgL.mkG 10 67 false (by rfl) (by kernel_rfl) (by kernel_rfl) (by kernel_rfl) (by kernel_rfl) (by kernel_rfl) ?_ ?_); (focus (intro _ _ h; exact h)); intro v a w' hE hd hf; have d0 : (IsI 128 (za ^ (ii))) (v 11) w' := hd 11 (by kernel_rfl); have ev0 := hf.val 11 68 _ rfl (by kernel_rfl) (by kernel_rfl) (by kernel_rfl); have d1 : (IsI 128 (za ^ (jj))) (v 12) w' := hd 12 (by kernel_rfl); have ev1 := hf.val 12 69 _ rfl (by kernel_rfl) (by kernel_rfl) (by kernel_rfl); clear hd hf; intro K hK; go_simp; go_at_call 13; go_split_ands; (with_reducible refine Calls.mono (Mul_f d0 d1 (by decide) (by decide)) ?_); rintro e w2 ⟨x, rfl, e2, hx⟩; exact hK.out _ _ e2 hx (FreshIf.no rfl) }) ?_
    refine RgAll.cons (by { (with_reducible refine RgL.mkG 10 67 false (by rfl) (by kernel_rfl) (by kernel_rfl) (by kernel_rfl) (by kernel_rfl) (by kernel_rfl) ?_ ?_); (focus (intro _ _ h; exact h)); intro v a w' hE hd hf; have ev0 := hf.lit 15 (.pointer (some ⟨g15, 0, none⟩)) (by kernel_rfl) (by kernel_rfl); obtain ⟨s8, a8, n8, c8, b8, h8⟩ := (S.mono hE).at 0 (g15) (IsI 128 (za ^ (ii + jj))) rfl; have L0 := b8.c0; have L1 := b8.c1; clear hd hf; intro K hK; go_simp; exact hK.out _ _ (Ext.refl _) h8 (FreshIf.no rfl) }) ?_
    refine RgAll.cons (by { (with_reducible refine RgL.mkG 10 67 false (by rfl) (by kernel_rfl) (by kernel_rfl) (by kernel_rfl) (by kernel_rfl) (by kernel_rfl) ?_ ?_); (focus (intro _ _ h; exact h)); intro v a w' hE hd hf; have d0 : (IsI 256 ((za ^ (ii)) * (za ^ (jj)))) (v 13) w' := hd 13 (by kernel_rfl); have ev0 := hf.val 13 70 _ rfl (by kernel_rfl) (by kernel_rfl) (by kernel_rfl); have d1 : (IsI 128 (za ^ (ii + jj))) (v 14) w' := hd 14 (by kernel_rfl); have ev1 := hf.val 14 71 _ rfl (by kernel_rfl) (by kernel_rfl) (by kernel_rfl); clear hd hf; intro K hK; go_simp; go_at_call 14; go_split_ands; (with_reducible refine Calls.mono (Same_t d0 d1 (HP.out) (by decide)) ?_); rintro e w2 ⟨x, rfl, e2, hx⟩; exact hK.out _ _ e2 hx (FreshIf.no rfl) }) ?_
    refine RgAll.cons (by { (with_reducible refine RgL.mkG 10 67 false (by rfl) (by kernel_rfl) (by kernel_rfl) (by kernel_rfl) (by kernel_rfl) (by kernel_rfl) ?_ ?_); (focus (intro _ _ h; exact h)); intro v a w' hE hd hf; have d0 : v 15 = .bool true := hd 15 (by kernel_rfl); have ev0 := hf.val 15 72 _ d0 (by kernel_rfl) (by kernel_rfl) (by kernel_rfl); clear d0; clear hd hf; intro K hK; go_simp; exact hK.out _ _ (Ext.refl _) rfl (FreshIf.no rfl) }) ?_
    refine RgAll.cons (by { (with_reducible refine RgL.mk (by rfl) ?_); intro v a w' hE hd hf; have d0 : v 10 = .bool false := hd 10 (by kernel_rfl); have ev0 := hf.val 10 67 _ d0 (by kernel_rfl) (by kernel_rfl) (by kernel_rfl); clear d0; have d1 : v 16 = .bool false := hd 16 (by kernel_rfl); have ev1 := hf.val 16 73 _ d1 (by kernel_rfl) (by kernel_rfl) (by kernel_rfl); clear d1; clear hd hf; intro K hK; go_simp; exact hK.out _ _ (Ext.refl _) rfl (FreshIf.no rfl) }) ?_
    exact RgAll.nil
  intro v W10 e1 hΦ _
  replace S := S.mono e1
  have v17 : v 17 = .bool false := hΦ 17 (by decide)
  simp only [layL, Act.put, List.setIfInBounds_toArray, List.set_cons_zero, List.set_cons_succ, Nat.reduceAdd]
  rw [v17]
  clear v17
  clear hΦ
  clear e1
  refine wpAny_done (by kernel_rfl) ?_ _
  go_upto_region 12 with (fail)
  have hl := hid S.lt; have hw := S.ext.size
  refine wp_region_rgs 3 [some 75, some 76, some 17] [IsI 3 za, IsI 3 ((bb : Int)), IsB W10] [2] (by decide) (by kernel_rfl) (by kernel_rfl) (by kernel_rfl) ?_ ?_ ?_ ?_
  · repeat' (first | exact trivial | exact IsV.stb _ | exact IsI.stb _ _ | exact IsB.stb _ | exact IsR.stb _ _ | exact IsMag.stb _ _ | exact IsPos.stb | apply IsT3.stb | apply IsT2.stb | apply And.intro)
  · intro i hi; simp only [List.mem_cons, List.not_mem_nil, or_false] at hi; subst hi; exact IsB.box _
  · refine RgAll.cons (by { (with_reducible refine RgL.mk (by rfl) ?_); intro v a w' hE hd hf; have ev0 := hf.lit 8 (.pointer (some ⟨g8, 0, none⟩)) (by kernel_rfl) (by kernel_rfl); obtain ⟨s8, a8, n8, c8, b8, h8⟩ := (S.mono hE).at 3 (g8) (IsI 3 za) rfl; have L0 := b8.c0; have L1 := b8.c1; clear hd hf; intro K hK; go_simp; exact hK.out _ _ (Ext.refl _) h8 (FreshIf.no rfl) }) ?_
    refine RgAll.cons (by { (with_reducible refine RgL.mk (by rfl) ?_); intro v a w' hE hd hf; have d0 : (IsI 3 za) (v 0) w' := hd 0 (by kernel_rfl); have ev0 := hf.val 0 75 _ rfl (by kernel_rfl) (by kernel_rfl) (by kernel_rfl); clear hd hf; intro K hK; go_simp; go_at_call 17; go_split_ands; (with_reducible refine Calls.mono (Calls.mono (Abs_f d0) fun _ _ h => h.eqz (HBB.out)) ?_); rintro e w2 ⟨x, rfl, e2, hx⟩; exact hK.out _ _ e2 hx (FreshIf.no rfl) }) ?_
    refine RgAll.cons (by { (with_reducible refine RgL.mk (by rfl) ?_); intro v a w' hE hd hf; skip; clear hd hf; intro K hK; go_simp; refine hK.out _ _ ((Ext.refl _).alloc _) ⟨_, rfl, hE.size, Bx.new _ _ _ _ _⟩ FreshIf.yes }) ?_
    exact RgAll.nil
  intro v W11 e1 hΦ _
  replace S := S.mono e1
  obtain ⟨s76, a76, n76, c76, v1, h76⟩ := (hΦ 1 (by decide) : IsI 3 ((bb : Int)) (v 1) W11)
  obtain ⟨g17, v2, q10, b9⟩ := (hΦ 2 (by decide) : IsB W10 (v 2) W11)
  replace S := S.addN (Apart.old hl.out q10) (Nat.le_trans hw q10) b9
  clear b9
  simp only [layL, Act.put, List.setIfInBounds_toArray, List.set_cons_zero, List.set_cons_succ, Nat.reduceAdd]
  rw [v1, v2]
  clear v1 v2
  clear hΦ
  clear hl hw
  clear e1
  obtain ⟨s8, a8, n8, c8, b8, _⟩ := S.at 0 (g17) (IsI 0 0) rfl; have F1 := b8.c0; have F2 := b8.c1; have F3 := b8.f0; have F4 := b8.f1
  refine wpList_step fun K hK => ?_; go_simp; refine hK _ _ ?_; clear hK K
  clear F1 F2 F3 F4 b8
  obtain ⟨W12, hW, S2, G2, _⟩ := S.put 0 (g17) (IsI 0 0) (IsI 3 ((bb : Int))) rfl s76 a76 n76 c76 (IsI.gstb _ _) ⟨_, _, _, _, rfl, h76⟩
  rw [← hW]; clear hW S
  have S : St w W12 [(g17, IsI 3 ((bb : Int))), (g15, IsI 128 (za ^ (ii + jj))), (g13, IsI 128 (za ^ (jj))), (g11, IsI 128 (za ^ (ii))), (g8, IsI 3 za), (w.heap.size, IsR s1 x1)] := S2; clear S2 G2
  clear h76
  refine wpList_nil ?_
  go_upto_region 13 with (fail)
  have hl := hid S.lt; have hw := S.ext.size
  refine wp_region_rgs 8 [some 78, some 79, some 80, some 81, some 77, some 82, some 83, some 18] [IsI 3 ((bb : Int)), IsV (.int .i64 (jj : Int)), IsV (.int .i64 (1 + (jj : Int))), IsT2 (IsI 128 ((bb : Int) ^ (1 + jj))) (IsV (.int .i64 0)), IsT2 (IsI 128 ((bb : Int) ^ (1 + jj))) (IsV (.int .i64 0)), IsI 128 ((bb : Int) ^ (1 + jj)), IsV (.int .i64 0), IsB W12] [7] (by decide) (by kernel_rfl) (by kernel_rfl) (by kernel_rfl) ?_ ?_ ?_ ?_
  · repeat' (first | exact trivial | exact IsV.stb _ | exact IsI.stb _ _ | exact IsB.stb _ | exact IsR.stb _ _ | exact IsMag.stb _ _ | exact IsPos.stb | apply IsT3.stb | apply IsT2.stb | apply And.intro)
  · intro i hi; simp only [List.mem_cons, List.not_mem_nil, or_false] at hi; subst hi; exact IsB.box _
  · refine RgAll.cons (by { (with_reducible refine RgL.mk (by rfl) ?_); intro v a w' hE hd hf; have ev0 := hf.lit 17 (.pointer (some ⟨g17, 0, none⟩)) (by kernel_rfl) (by kernel_rfl); obtain ⟨s8, a8, n8, c8, b8, h8⟩ := (S.mono hE).at 0 (g17) (IsI 3 ((bb : Int))) rfl; have L0 := b8.c0; have L1 := b8.c1; clear hd hf; intro K hK; go_simp; exact hK.out _ _ (Ext.refl _) h8 (FreshIf.no rfl) }) ?_
    refine RgAll.cons (by { (with_reducible refine RgL.mk (by rfl) ?_); intro v a w' hE hd hf; have ev0 := hf.lit 10 (.int .i64 (jj : Int)) (by kernel_rfl) (by kernel_rfl); clear hd hf; intro K hK; go_simp; exact hK.out _ _ (Ext.refl _) rfl (FreshIf.no rfl) }) ?_
    refine RgAll.cons (by { (with_reducible refine RgL.mk (by rfl) ?_); intro v a w' hE hd hf; have d1 : v 1 = .int .i64 (jj : Int) := hd 1 (by kernel_rfl); have ev1 := hf.val 1 79 _ d1 (by kernel_rfl) (by kernel_rfl) (by kernel_rfl); clear d1; have hw9 := HW.out.2; clear hd hf; intro K hK; go_simp; exact hK.out _ _ (Ext.refl _) rfl (FreshIf.no rfl) }) ?_
    refine RgAll.cons (by { (with_reducible refine RgL.mk (by rfl) ?_); intro v a w' hE hd hf; have d0 : (IsI 3 ((bb : Int))) (v 0) w' := hd 0 (by kernel_rfl); have ev0 := hf.val 0 78 _ rfl (by kernel_rfl) (by kernel_rfl) (by kernel_rfl); have d1 : v 2 = .int .i64 (1 + (jj : Int)) := hd 2 (by kernel_rfl); have ev1 := hf.val 2 80 _ d1 (by kernel_rfl) (by kernel_rfl) (by kernel_rfl); clear d1; clear hd hf; intro K hK; go_simp; go_at_call 20; go_split_ands; (with_reducible refine Calls.mono (Pow_g d0 (by decide) (1 + jj) (1 + (jj : Int)) (by omega) (by omega) (pow_small _ _ HB3.out (by omega))) ?_); rintro e w2 ⟨x, rfl, e2, hx⟩; exact hK.out _ _ e2 hx (FreshIf.no rfl) }) ?_
    refine RgAll.cons (by { (with_reducible refine RgL.mk (by rfl) ?_); intro v a w' hE hd hf; have d0 : (IsT2 (IsI 128 ((bb : Int) ^ (1 + jj))) (IsV (.int .i64 0))) (v 3) w' := hd 3 (by kernel_rfl); have ev0 := hf.val 3 81 _ rfl (by kernel_rfl) (by kernel_rfl) (by kernel_rfl); clear hd hf; intro K hK; go_simp; exact hK.out _ _ (Ext.refl _) d0 (FreshIf.no rfl) }) ?_
    refine RgAll.cons (by { (with_reducible refine RgL.mk (by rfl) ?_); intro v a w' hE hd hf; have d0 : (IsT2 (IsI 128 ((bb : Int) ^ (1 + jj))) (IsV (.int .i64 0))) (v 4) w' := hd 4 (by kernel_rfl); obtain ⟨x0, x1, z0, y0, y1⟩ := d0; have ev0 := hf.val 4 77 _ z0 (by kernel_rfl) (by kernel_rfl) (by kernel_rfl); clear z0; clear hd hf; intro K hK; go_simp; exact hK.out _ _ (Ext.refl _) y0 (FreshIf.no rfl) }) ?_
    refine RgAll.cons (by { (with_reducible refine RgL.mk (by rfl) ?_); intro v a w' hE hd hf; have d0 : (IsT2 (IsI 128 ((bb : Int) ^ (1 + jj))) (IsV (.int .i64 0))) (v 4) w' := hd 4 (by kernel_rfl); obtain ⟨x0, x1, z0, y0, y1⟩ := d0; have ev0 := hf.val 4 77 _ z0 (by kernel_rfl) (by kernel_rfl) (by kernel_rfl); clear z0; clear hd hf; intro K hK; go_simp; exact hK.out _ _ (Ext.refl _) y1 (FreshIf.no rfl) }) ?_
    refine RgAll.cons (by { (with_reducible refine RgL.mk (by rfl) ?_); intro v a w' hE hd hf; skip; clear hd hf; intro K hK; go_simp; refine hK.out _ _ ((Ext.refl _).alloc _) ⟨_, rfl, hE.size, Bx.new _ _ _ _ _⟩ FreshIf.yes }) ?_
    exact RgAll.nil
  intro v W13 e1 hΦ _
  replace S := S.mono e1
  obtain ⟨s82, a82, n82, c82, v5, h82⟩ := (hΦ 5 (by decide) : IsI 128 ((bb : Int) ^ (1 + jj)) (v 5) W13)
  have v6 : v 6 = .int .i64 0 := hΦ 6 (by decide)
  obtain ⟨g18, v7, q12, b11⟩ := (hΦ 7 (by decide) : IsB W12 (v 7) W13)
  replace S := S.addN (Apart.old hl.out q12) (Nat.le_trans hw q12) b11
  clear b11
  simp only [layL, Act.put, List.setIfInBounds_toArray, List.set_cons_zero, List.set_cons_succ, Nat.reduceAdd]
  rw [v5, v6, v7]
  clear v5 v6 v7
  clear hΦ
  clear hl hw
  clear e1
  obtain ⟨s8, a8, n8, c8, b8, _⟩ := S.at 0 (g18) (IsI 0 0) rfl; have F1 := b8.c0; have F2 := b8.c1; have F3 := b8.f0; have F4 := b8.f1
  refine wpList_step fun K hK => ?_; go_simp; refine hK _ _ ?_; clear hK K
  clear F1 F2 F3 F4 b8
  obtain ⟨W14, hW, S2, G2, _⟩ := S.put 0 (g18) (IsI 0 0) (IsI 128 ((bb : Int) ^ (1 + jj))) rfl s82 a82 n82 c82 (IsI.gstb _ _) ⟨_, _, _, _, rfl, h82⟩
  rw [← hW]; clear hW S
  have S : St w W14 [(g18, IsI 128 ((bb : Int) ^ (1 + jj))), (g17, IsI 3 ((bb : Int))), (g15, IsI 128 (za ^ (ii + jj))), (g13, IsI 128 (za ^ (jj))), (g11, IsI 128 (za ^ (ii))), (g8, IsI 3 za), (w.heap.size, IsR s1 x1)] := S2; clear S2 G2
  clear h82
  refine wpList_step fun K hK => ?_; go_simp; refine hK _ _ ?_; clear hK K
  refine wpList_nil ?_
  go_upto_region 14 with (fail)
  have hl := hid S.lt; have hw := S.ext.size
  refine wp_region_rgs 8 [some 85, some 86, some 87, some 88, some 84, some 89, some 90, some 20] [IsI 128 ((bb : Int) ^ (1 + jj)), IsV (.int .i64 (jj : Int)), IsV (.int .i64 (1 + (jj : Int))), IsT2 (IsI 128 ((bb : Int))) (IsV (.int .i64 0)), IsT2 (IsI 128 ((bb : Int))) (IsV (.int .i64 0)), IsI 128 ((bb : Int)), IsV (.int .i64 0), IsB W14] [7] (by decide) (by kernel_rfl) (by kernel_rfl) (by kernel_rfl) ?_ ?_ ?_ ?_
  · repeat' (first | exact trivial | exact IsV.stb _ | exact IsI.stb _ _ | exact IsB.stb _ | exact IsR.stb _ _ | exact IsMag.stb _ _ | exact IsPos.stb | apply IsT3.stb | apply IsT2.stb | apply And.intro)
  · intro i hi; simp only [List.mem_cons, List.not_mem_nil, or_false] at hi; subst hi; exact IsB.box _
  · refine RgAll.cons (by { (with_reducible refine RgL.mk (by rfl) ?_); intro v a w' hE hd hf; have ev0 := hf.lit 18 (.pointer (some ⟨g18, 0, none⟩)) (by kernel_rfl) (by kernel_rfl); obtain ⟨s8, a8, n8, c8, b8, h8⟩ := (S.mono hE).at 0 (g18) (IsI 128 ((bb : Int) ^ (1 + jj))) rfl; have L0 := b8.c0; have L1 := b8.c1; clear hd hf; intro K hK; go_simp; exact hK.out _ _ (Ext.refl _) h8 (FreshIf.no rfl) }) ?_
    refine RgAll.cons (by { (with_reducible refine RgL.mk (by rfl) ?_); intro v a w' hE hd hf; have ev0 := hf.lit 10 (.int .i64 (jj : Int)) (by kernel_rfl) (by kernel_rfl); clear hd hf; intro K hK; go_simp; exact hK.out _ _ (Ext.refl _) rfl (FreshIf.no rfl) }) ?_
    refine RgAll.cons (by { (with_reducible refine RgL.mk (by rfl) ?_); intro v a w' hE hd hf; have d1 : v 1 = .int .i64 (jj : Int) := hd 1 (by kernel_rfl); have ev1 := hf.val 1 86 _ d1 (by kernel_rfl) (by kernel_rfl) (by kernel_rfl); clear d1; have hw9 := HW.out.2; clear hd hf; intro K hK; go_simp; exact hK.out _ _ (Ext.refl _) rfl (FreshIf.no rfl) }) ?_
    refine RgAll.cons (by { (with_reducible refine RgL.mk (by rfl) ?_); intro v a w' hE hd hf; have d0 : (IsI 128 ((bb : Int) ^ (1 + jj))) (v 0) w' := hd 0 (by kernel_rfl); have ev0 := hf.val 0 85 _ rfl (by kernel_rfl) (by kernel_rfl) (by kernel_rfl); have d1 : v 2 = .int .i64 (1 + (jj : Int)) := hd 2 (by kernel_rfl); have ev1 := hf.val 2 87 _ d1 (by kernel_rfl) (by kernel_rfl) (by kernel_rfl); clear d1; clear hd hf; intro K hK; go_simp; go_at_call 21; go_split_ands; (with_reducible refine Calls.mono (Root_g d0 (by decide) HS0.out (1 + jj) (1 + (jj : Int)) (by omega) (by omega) (by omega) bb HR.out) ?_); rintro e w2 ⟨x, rfl, e2, hx⟩; exact hK.out _ _ e2 hx (FreshIf.no rfl) }) ?_
    refine RgAll.cons (by { (with_reducible refine RgL.mk (by rfl) ?_); intro v a w' hE hd hf; have d0 : (IsT2 (IsI 128 ((bb : Int))) (IsV (.int .i64 0))) (v 3) w' := hd 3 (by kernel_rfl); have ev0 := hf.val 3 88 _ rfl (by kernel_rfl) (by kernel_rfl) (by kernel_rfl); clear hd hf; intro K hK; go_simp; exact hK.out _ _ (Ext.refl _) d0 (FreshIf.no rfl) }) ?_
    refine RgAll.cons (by { (with_reducible refine RgL.mk (by rfl) ?_); intro v a w' hE hd hf; have d0 : (IsT2 (IsI 128 ((bb : Int))) (IsV (.int .i64 0))) (v 4) w' := hd 4 (by kernel_rfl); obtain ⟨x0, x1, z0, y0, y1⟩ := d0; have ev0 := hf.val 4 84 _ z0 (by kernel_rfl) (by kernel_rfl) (by kernel_rfl); clear z0; clear hd hf; intro K hK; go_simp; exact hK.out _ _ (Ext.refl _) y0 (FreshIf.no rfl) }) ?_
    refine RgAll.cons (by { (with_reducible refine RgL.mk (by rfl) ?_); intro v a w' hE hd hf; have d0 : (IsT2 (IsI 128 ((bb : Int))) (IsV (.int .i64 0))) (v 4) w' := hd 4 (by kernel_rfl); obtain ⟨x0, x1, z0, y0, y1⟩ := d0; have ev0 := hf.val 4 84 _ z0 (by kernel_rfl) (by kernel_rfl) (by kernel_rfl); clear z0; clear hd hf; intro K hK; go_simp; exact hK.out _ _ (Ext.refl _) y1 (FreshIf.no rfl) }) ?_
    refine RgAll.cons (by { (with_reducible refine RgL.mk (by rfl) ?_); intro v a w' hE hd hf; skip; clear hd hf; intro K hK; go_simp; refine hK.out _ _ ((Ext.refl _).alloc _) ⟨_, rfl, hE.size, Bx.new _ _ _ _ _⟩ FreshIf.yes }) ?_
    exact RgAll.nil
  intro v W15 e1 hΦ _
  replace S := S.mono e1
  obtain ⟨s89, a89, n89, c89, v5, h89⟩ := (hΦ 5 (by decide) : IsI 128 ((bb : Int)) (v 5) W15)
  have v6 : v 6 = .int .i64 0 := hΦ 6 (by decide)
  obtain ⟨g20, v7, q14, b13⟩ := (hΦ 7 (by decide) : IsB W14 (v 7) W15)
  replace S := S.addN (Apart.old hl.out q14) (Nat.le_trans hw q14) b13
  clear b13
  simp only [layL, Act.put, List.setIfInBounds_toArray, List.set_cons_zero, List.set_cons_succ, Nat.reduceAdd]
  rw [v5, v6, v7]
  clear v5 v6 v7
  clear hΦ
  clear hl hw
  clear e1
  obtain ⟨s8, a8, n8, c8, b8, _⟩ := S.at 0 (g20) (IsI 0 0) rfl; have F1 := b8.c0; have F2 := b8.c1; have F3 := b8.f0; have F4 := b8.f1
  refine wpList_step fun K hK => ?_; go_simp; refine hK _ _ ?_; clear hK K
  clear F1 F2 F3 F4 b8
  obtain ⟨W16, hW, S2, G2, _⟩ := S.put 0 (g20) (IsI 0 0) (IsI 128 ((bb : Int))) rfl s89 a89 n89 c89 (IsI.gstb _ _) ⟨_, _, _, _, rfl, h89⟩
  rw [← hW]; clear hW S
  have S : St w W16 [(g20, IsI 128 ((bb : Int))), (g18, IsI 128 ((bb : Int) ^ (1 + jj))), (g17, IsI 3 ((bb : Int))), (g15, IsI 128 (za ^ (ii + jj))), (g13, IsI 128 (za ^ (jj))), (g11, IsI 128 (za ^ (ii))), (g8, IsI 3 za), (w.heap.size, IsR s1 x1)] := S2; clear S2 G2
  clear h89
  refine wpList_step fun K hK => ?_; go_simp; refine hK _ _ ?_; clear hK K
  refine wpList_nil ?_
  go_upto_region 15 with (fail)
  refine wp_region_rgs 12 [some 91, some 92, some 93, some 94, some 95, some 96, some 97, some 98, some 99, some 100, some 101, some 102] [IsV (.int .i64 0), IsV (.bool false), IsV (.bool false), IsV (.int .i64 0), IsV (.bool false), IsV (.bool false), IsV (.bool false), IsI 128 ((bb : Int)), IsI 3 ((bb : Int)), IsV (.bool true), IsV (.bool false), IsV (.bool false)] [] (by decide) (by kernel_rfl) (by kernel_rfl) (by kernel_rfl) ?_ ?_ ?_ ?_
  · repeat' (first | exact trivial | exact IsV.stb _ | exact IsI.stb _ _ | exact IsB.stb _ | exact IsR.stb _ _ | exact IsMag.stb _ _ | exact IsPos.stb | apply IsT3.stb | apply IsT2.stb | apply And.intro)
  · exact (fun _ h => by cases h)
  · refine RgAll.cons (by { (with_reducible refine RgL.mk (by rfl) ?_); intro v a w' hE hd hf; have ev0 := hf.lit 19 (.int .i64 0) (by kernel_rfl) (by kernel_rfl); clear hd hf; intro K hK; go_simp; exact hK.out _ _ (Ext.refl _) rfl (FreshIf.no rfl) }) ?_
    refine RgAll.cons (by { (with_reducible refine RgL.mk (by rfl) ?_); intro v a w' hE hd hf; have d0 : v 0 = .int .i64 0 := hd 0 (by kernel_rfl); have ev0 := hf.val 0 91 _ d0 (by kernel_rfl) (by kernel_rfl) (by kernel_rfl); clear d0; clear hd hf; intro K hK; go_simp; exact hK.out _ _ (Ext.refl _) rfl (FreshIf.no rfl) }) ?_
    refine RgAll.cons (by { (with_reducible refine RgL.mk (by rfl) ?_); intro v a w' hE hd hf; have d0 : v 1 = .bool false := hd 1 (by kernel_rfl); have ev0 := hf.val 1 92 _ d0 (by kernel_rfl) (by kernel_rfl) (by kernel_rfl); clear d0; clear hd hf; intro K hK; go_simp; exact hK.out _ _ (Ext.refl _) rfl (FreshIf.no rfl) }) ?_
    refine RgAll.cons (by { (with_reducible refine RgL.mkG 2 93 false (by rfl) (by kernel_rfl) (by kernel_rfl) (by kernel_rfl) (by kernel_rfl) (by kernel_rfl) ?_ ?_); (focus (intro _ _ h; exact h)); intro v a w' hE hd hf; have ev0 := hf.lit 21 (.int .i64 0) (by kernel_rfl) (by kernel_rfl); clear hd hf; intro K hK; go_simp; exact hK.out _ _ (Ext.refl _) rfl (FreshIf.no rfl) }) ?_
    refine RgAll.cons (by { (with_reducible refine RgL.mkG 2 93 false (by rfl) (by kernel_rfl) (by kernel_rfl) (by kernel_rfl) (by kernel_rfl) (by kernel_rfl) ?_ ?_); (focus (intro _ _ h; exact h)); intro v a w' hE hd hf; have d0 : v 3 = .int .i64 0 := hd 3 (by kernel_rfl); have ev0 := hf.val 3 94 _ d0 (by kernel_rfl) (by kernel_rfl) (by kernel_rfl); clear d0; clear hd hf; intro K hK; go_simp; exact hK.out _ _ (Ext.refl _) rfl (FreshIf.no rfl) }) ?_
    refine RgAll.cons (by { (with_reducible refine RgL.mk (by rfl) ?_); intro v a w' hE hd hf; have d0 : v 2 = .bool false := hd 2 (by kernel_rfl); have ev0 := hf.val 2 93 _ d0 (by kernel_rfl) (by kernel_rfl) (by kernel_rfl); clear d0; have d1 : v 4 = .bool false := hd 4 (by kernel_rfl); have ev1 := hf.val 4 95 _ d1 (by kernel_rfl) (by kernel_rfl) (by kernel_rfl); clear d1; clear hd hf; intro K hK; go_simp; exact hK.out _ _ (Ext.refl _) rfl (FreshIf.no rfl) }) ?_
    refine RgAll.cons (by { (with_reducible refine RgL.mk (by rfl) ?_); intro v a w' hE hd hf; have d0 : v 5 = .bool false := hd 5 (by kernel_rfl); have ev0 := hf.val 5 96 _ d0 (by kernel_rfl) (by kernel_rfl) (by kernel_rfl); clear d0; clear hd hf; intro K hK; go_simp; exact hK.out _ _ (Ext.refl _) rfl (FreshIf.no rfl) }) ?_
    refine RgAll.cons (by { (with_reducible refine RgL.mkG 6 97 false (by rfl) (by kernel_rfl) (by kernel_rfl) (by kernel_rfl) (by kernel_rfl) (by kernel_rfl) ?_ ?_); (focus (intro _ _ h; exact h)); intro v a w' hE hd hf; have ev0 := hf.lit 20 (.pointer (some ⟨g20, 0, none⟩)) (by kernel_rfl) (by kernel_rfl); obtain ⟨s8, a8, n8, c8, b8, h8⟩ := (S.mono hE).at 0 (g20) (IsI 128 ((bb : Int))) rfl; have L0 := b8.c0; have L1 := b8.c1; clear hd hf; intro K hK; go_simp; exact hK.out _ _ (Ext.refl _) h8 (FreshIf.no rfl) }) ?_
    refine RgAll.cons (by { (with_reducible refine RgL.mkG 6 97 false (by rfl) (by kernel_rfl) (by kernel_rfl) (by kernel_rfl) (by kernel_rfl) (by kernel_rfl) ?_ ?_); (focus (intro _ _ h; exact h)); intro v a w' hE hd hf; have ev0 := hf.lit 17 (.pointer (some ⟨g17, 0, none⟩)) (by kernel_rfl) (by kernel_rfl); obtain ⟨s8, a8, n8, c8, b8, h8⟩ := (S.mono hE).at 2 (g17) (IsI 3 ((bb : Int))) rfl; have L0 := b8.c0; have L1 := b8.c1; clear hd hf; intro K hK; go_simp; exact hK.out _ _ (Ext.refl _) h8 (FreshIf.no rfl) }) ?_
    refine RgAll.cons (by { (with_reducible refine RgL.mkG 6 97 false (by rfl) (by kernel_rfl) (by kernel_rfl) (by kernel_rfl) (by kernel_rfl) (by kernel_rfl) ?_ ?_); (focus (intro _ _ h; exact h)); intro v a w' hE hd hf; have d0 : (IsI 128 ((bb : Int))) (v 7) w' := hd 7 (by kernel_rfl); have ev0 := hf.val 7 98 _ rfl (by kernel_rfl) (by kernel_rfl) (by kernel_rfl); have d1 : (IsI 3 ((bb : Int))) (v 8) w' := hd 8 (by kernel_rfl); have ev1 := hf.val 8 99 _ rfl (by kernel_rfl) (by kernel_rfl) (by kernel_rfl); clear hd hf; intro K hK; go_simp; go_at_call 14; go_split_ands; (with_reducible refine Calls.mono (Same_t d0 d1 (rfl) (by decide)) ?_); rintro e w2 ⟨x, rfl, e2, hx⟩; exact hK.out _ _ e2 hx (FreshIf.no rfl) }) ?_
    refine RgAll.cons (by { (with_reducible refine RgL.mkG 6 97 false (by rfl) (by kernel_rfl) (by kernel_rfl) (by kernel_rfl) (by kernel_rfl) (by kernel_rfl) ?_ ?_); (focus (intro _ _ h; exact h)); intro v a w' hE hd hf; have d0 : v 9 = .bool true := hd 9 (by kernel_rfl); have ev0 := hf.val 9 100 _ d0 (by kernel_rfl) (by kernel_rfl) (by kernel_rfl); clear d0; clear hd hf; intro K hK; go_simp; exact hK.out _ _ (Ext.refl _) rfl (FreshIf.no rfl) }) ?_
    refine RgAll.cons (by { (with_reducible refine RgL.mk (by rfl) ?_); intro v a w' hE hd hf; have d0 : v 6 = .bool false := hd 6 (by kernel_rfl); have ev0 := hf.val 6 97 _ d0 (by kernel_rfl) (by kernel_rfl) (by kernel_rfl); clear d0; have d1 : v 10 = .bool false := hd 10 (by kernel_rfl); have ev1 := hf.val 10 101 _ d1 (by kernel_rfl) (by kernel_rfl) (by kernel_rfl); clear d1; clear hd hf; intro K hK; go_simp; exact hK.out _ _ (Ext.refl _) rfl (FreshIf.no rfl) }) ?_
    exact RgAll.nil
  intro v W17 e1 hΦ _
  replace S := S.mono e1
  have v11 : v 11 = .bool false := hΦ 11 (by decide)
  simp only [layL, Act.put, List.setIfInBounds_toArray, List.set_cons_zero, List.set_cons_succ, Nat.reduceAdd]
  rw [v11]
  clear v11
  clear hΦ
  clear e1
  refine wpList_nil ?_
  go_upto_region 17 with (fail)
  refine wp_region_rgs 4 [some 103, some 104, some 105, some 106] [IsV (.pointer (some ⟨g17, 1, none⟩)), IsMag 3 ((bb : Int)), IsPos, IsV (.bool false)] [] (by decide) (by kernel_rfl) (by kernel_rfl) (by kernel_rfl) ?_ ?_ ?_ ?_
  · repeat' (first | exact trivial | exact IsV.stb _ | exact IsI.stb _ _ | exact IsB.stb _ | exact IsR.stb _ _ | exact IsMag.stb _ _ | exact IsPos.stb | apply IsT3.stb | apply IsT2.stb | apply And.intro)
  · exact (fun _ h => by cases h)
  · refine RgAll.cons (by { (with_reducible refine RgL.mk (by rfl) ?_); intro v a w' hE hd hf; have ev0 := hf.lit 17 (.pointer (some ⟨g17, 0, none⟩)) (by kernel_rfl) (by kernel_rfl); clear hd hf; intro K hK; go_simp; exact hK.out _ _ (Ext.refl _) rfl (FreshIf.no rfl) }) ?_
    refine RgAll.cons (by { (with_reducible refine RgL.mk (by rfl) ?_); intro v a w' hE hd hf; have d0 : v 0 = .pointer (some ⟨g17, 1, none⟩) := hd 0 (by kernel_rfl); have ev0 := hf.val 0 103 _ d0 (by kernel_rfl) (by kernel_rfl) (by kernel_rfl); clear d0; obtain ⟨s8, a8, n8, c8, b8, h8⟩ := (S.mono hE).at 2 (g17) (IsI 3 ((bb : Int))) rfl; have L0 := b8.c0; have L1 := b8.c1; obtain ⟨s9, a9, n9, c9, k9, h9⟩ := h8; injection k9 with k9; simp only [Array.mk.injEq, List.cons.injEq, Value.bool.injEq, Value.slice.injEq, and_true] at k9; obtain ⟨rfl, rfl, rfl, rfl⟩ := k9; clear hd hf; intro K hK; go_simp; exact hK.out _ _ (Ext.refl _) ⟨_, _, _, _, rfl, h9⟩ (FreshIf.no rfl) }) ?_
    refine RgAll.cons (by { (with_reducible refine RgL.mk (by rfl) ?_); intro v a w' hE hd hf; have d0 : (IsMag 3 ((bb : Int))) (v 1) w' := hd 1 (by kernel_rfl); obtain ⟨s9, a9, n9, c9, z0, h9⟩ := d0; have ev0 := hf.val 1 104 _ z0 (by kernel_rfl) (by kernel_rfl) (by kernel_rfl); clear z0; clear hd hf; intro K hK; go_simp; exact hK.out _ _ (Ext.refl _) ⟨n9, rfl, Nat.pos_of_ne_zero (fun h0 => (HZ.out) (h9.zero_iff.2 h0)), h9.len⟩ (FreshIf.no rfl) }) ?_
    refine RgAll.cons (by { (with_reducible refine RgL.mk (by rfl) ?_); intro v a w' hE hd hf; have d0 : IsPos (v 2) w' := hd 2 (by kernel_rfl); obtain ⟨n9, z0, p9, q9⟩ := d0; have ev0 := hf.val 2 105 _ z0 (by kernel_rfl) (by kernel_rfl) (by kernel_rfl); clear z0; have hb9 : ((n9 : Int) == 0) = false := (by rw [beq_eq_false_iff_ne]; omega); have hb8 : decide ((0 : Int) < (n9 : Int)) = true := (by simp; omega); have hb7 : decide (0 < n9) = true := (by simp; omega); have hb6 : (n9 == 0) = false := (by rw [beq_eq_false_iff_ne]; omega); clear hd hf; intro K hK; go_simp; exact hK.out _ _ (Ext.refl _) rfl (FreshIf.no rfl) }) ?_
    exact RgAll.nil
  intro v W18 e1 hΦ _
  replace S := S.mono e1
  have v3 : v 3 = .bool false := hΦ 3 (by decide)
  simp only [layL, Act.put, List.setIfInBounds_toArray, List.set_cons_zero, List.set_cons_succ, Nat.reduceAdd]
  rw [v3]
  clear v3
  clear hΦ
  clear e1
  refine wpList_nil ?_
  go_upto_region 19 with (fail)
  have hl := hid S.lt; have hw := S.ext.size
  refine wp_region_rg 4 [some 108, some 109, some 110, some 22] [IsI 3 ((bb : Int)), IsI 2 1, IsI 4 (((bb : Int)) - 1), IsB W18] [3] 1 (by kernel_rfl) (by decide) (by kernel_rfl) (by kernel_rfl) (by kernel_rfl) (by kernel_rfl) (by kernel_rfl) ?_ ?_ ?_ ?_
  · repeat' (first | exact trivial | exact IsV.stb _ | exact IsI.stb _ _ | exact IsB.stb _ | exact IsR.stb _ _ | exact IsMag.stb _ _ | exact IsPos.stb | apply IsT3.stb | apply IsT2.stb | apply And.intro)
  · intro i hi; simp only [List.mem_cons, List.not_mem_nil, or_false] at hi; subst hi; exact IsB.box _
  · refine RgAll.cons (by { (with_reducible refine RgL.mk (by rfl) ?_); intro v a w' hE hd hf; have ev0 := hf.lit 17 (.pointer (some ⟨g17, 0, none⟩)) (by kernel_rfl) (by kernel_rfl); obtain ⟨s8, a8, n8, c8, b8, h8⟩ := (S.mono hE).at 2 (g17) (IsI 3 ((bb : Int))) rfl; have L0 := b8.c0; have L1 := b8.c1; clear hd hf; intro K hK; go_simp; exact hK.out _ _ (Ext.refl _) h8 (FreshIf.no rfl) }) ?_
    refine RgAll.cons (by { (with_reducible refine RgL.mk (by rfl) ?_); intro v a w' hE hd hf; skip; clear hd hf; intro K hK; go_simp; go_at_call 23; go_split_ands; (with_reducible refine Calls.mono (Of_f _ 1 (by decide) (by decide)) ?_); rintro e w2 ⟨x, rfl, e2, hx⟩; exact hK.out _ _ e2 hx (FreshIf.no rfl) }) ?_
    refine RgAll.cons (by { (with_reducible refine RgL.mk (by rfl) ?_); intro v a w' hE hd hf; have d0 : (IsI 3 ((bb : Int))) (v 0) w' := hd 0 (by kernel_rfl); have ev0 := hf.val 0 108 _ rfl (by kernel_rfl) (by kernel_rfl) (by kernel_rfl); have d1 : (IsI 2 1) (v 1) w' := hd 1 (by kernel_rfl); have ev1 := hf.val 1 109 _ rfl (by kernel_rfl) (by kernel_rfl) (by kernel_rfl); clear hd hf; intro K hK; go_simp; go_at_call 22; go_split_ands; (with_reducible refine Calls.mono (Sub_f d0 d1 (by decide) (by decide)) ?_); rintro e w2 ⟨x, rfl, e2, hx⟩; exact hK.out _ _ e2 hx (FreshIf.no rfl) }) ?_
    refine RgAll.cons (by { (with_reducible refine RgL.mk (by rfl) ?_); intro v a w' hE hd hf; skip; clear hd hf; intro K hK; go_simp; refine hK.out _ _ ((Ext.refl _).alloc _) ⟨_, rfl, hE.size, Bx.new _ _ _ _ _⟩ FreshIf.yes }) ?_
    exact RgAll.nil
  intro v W19 e1 hΦ _
  replace S := S.mono e1
  obtain ⟨s110, a110, n110, c110, v2, h110⟩ := (hΦ 2 (by decide) : IsI 4 (((bb : Int)) - 1) (v 2) W19)
  obtain ⟨g22, v3, q16, b15⟩ := (hΦ 3 (by decide) : IsB W18 (v 3) W19)
  replace S := S.addN (Apart.old hl.out q16) (Nat.le_trans hw q16) b15
  clear b15
  simp only [layL, Act.put, List.setIfInBounds_toArray, List.set_cons_zero, List.set_cons_succ, Nat.reduceAdd]
  rw [v2, v3]
  clear v2 v3
  clear hΦ
  clear hl hw
  clear e1
  obtain ⟨s8, a8, n8, c8, b8, _⟩ := S.at 0 (g22) (IsI 0 0) rfl; have F1 := b8.c0; have F2 := b8.c1; have F3 := b8.f0; have F4 := b8.f1
  refine wpAny_ready (rs := [4]) (by kernel_rfl) (by simp) (AllReady.cons rfl (fun K hK => ?_) AllReady.nil); go_simp; refine hK _ _ ?_; clear hK K
  clear F1 F2 F3 F4 b8
  obtain ⟨W20, hW, S2, G2, _⟩ := S.put 0 (g22) (IsI 0 0) (IsI 4 (((bb : Int)) - 1)) rfl s110 a110 n110 c110 (IsI.gstb _ _) ⟨_, _, _, _, rfl, h110⟩
  rw [← hW]; clear hW S
  have S : St w W20 [(g22, IsI 4 (((bb : Int)) - 1)), (g20, IsI 128 ((bb : Int))), (g18, IsI 128 ((bb : Int) ^ (1 + jj))), (g17, IsI 3 ((bb : Int))), (g15, IsI 128 (za ^ (ii + jj))), (g13, IsI 128 (za ^ (jj))), (g11, IsI 128 (za ^ (ii))), (g8, IsI 3 za), (w.heap.size, IsR s1 x1)] := S2; clear S2 G2
  clear h110
  refine wpAny_done (by kernel_rfl) ?_ _
  go_upto_region 20 with (fail)
  have hl := hid S.lt; have hw := S.ext.size
  refine wp_region_rgs 12 [some 112, some 113, some 114, some 115, some 116, some 117, some 111, some 118, some 119, some 120, some 23, some 24] [IsI 3 ((bb : Int)), IsI 3 ((bb : Int)), IsI 6 (((bb : Int)) * ((bb : Int))), IsI 2 1, IsI 7 ((((bb : Int)) * ((bb : Int))) - 1), IsT3 (IsI 7 (((bb - 1 : Nat) : Int))) (IsI 7 ((bb : Int) * (bb : Int) - 1 - ((bb - 1 : Nat) : Int) * ((bb - 1 : Nat) : Int))) (IsV (.int .i64 0)), IsT3 (IsI 7 (((bb - 1 : Nat) : Int))) (IsI 7 ((bb : Int) * (bb : Int) - 1 - ((bb - 1 : Nat) : Int) * ((bb - 1 : Nat) : Int))) (IsV (.int .i64 0)), IsI 7 (((bb - 1 : Nat) : Int)), IsI 7 ((bb : Int) * (bb : Int) - 1 - ((bb - 1 : Nat) : Int) * ((bb - 1 : Nat) : Int)), IsV (.int .i64 0), IsB W20, IsB W20] [10, 11] (by decide) (by kernel_rfl) (by kernel_rfl) (by kernel_rfl) ?_ ?_ ?_ ?_
  · repeat' (first | exact trivial | exact IsV.stb _ | exact IsI.stb _ _ | exact IsB.stb _ | exact IsR.stb _ _ | exact IsMag.stb _ _ | exact IsPos.stb | apply IsT3.stb | apply IsT2.stb | apply And.intro)
  · intro i hi; simp only [List.mem_cons, List.not_mem_nil, or_false] at hi; rcases hi with rfl | rfl <;> exact IsB.box _
  · refine RgAll.cons (by { (with_reducible refine RgL.mk (by rfl) ?_); intro v a w' hE hd hf; have ev0 := hf.lit 17 (.pointer (some ⟨g17, 0, none⟩)) (by kernel_rfl) (by kernel_rfl); obtain ⟨s8, a8, n8, c8, b8, h8⟩ := (S.mono hE).at 3 (g17) (IsI 3 ((bb : Int))) rfl; have L0 := b8.c0; have L1 := b8.c1; clear hd hf; intro K hK; go_simp; exact hK.out _ _ (Ext.refl _) h8 (FreshIf.no rfl) }) ?_
    refine RgAll.cons (by { (with_reducible refine RgL.mk (by rfl) ?_); intro v a w' hE hd hf; have ev0 := hf.lit 17 (.pointer (some ⟨g17, 0, none⟩)) (by kernel_rfl) (by kernel_rfl); obtain ⟨s8, a8, n8, c8, b8, h8⟩ := (S.mono hE).at 3 (g17) (IsI 3 ((bb : Int))) rfl; have L0 := b8.c0; have L1 := b8.c1; clear hd hf; intro K hK; go_simp; exact hK.out _ _ (Ext.refl _) h8 (FreshIf.no rfl) }) ?_
    refine RgAll.cons (by { (with_reducible refine RgL.mk (by rfl) ?_); intro v a w' hE hd hf; have d0 : (IsI 3 ((bb : Int))) (v 0) w' := hd 0 (by kernel_rfl); have ev0 := hf.val 0 112 _ rfl (by kernel_rfl) (by kernel_rfl) (by kernel_rfl); have d1 : (IsI 3 ((bb : Int))) (v 1) w' := hd 1 (by kernel_rfl); have ev1 := hf.val 1 113 _ rfl (by kernel_rfl) (by kernel_rfl) (by kernel_rfl); clear hd hf; intro K hK; go_simp; go_at_call 13; go_split_ands; (with_reducible refine Calls.mono (Mul_f d0 d1 (by decide) (by decide)) ?_); rintro e w2 ⟨x, rfl, e2, hx⟩; exact hK.out _ _ e2 hx (FreshIf.no rfl) }) ?_
    refine RgAll.cons (by { (with_reducible refine RgL.mk (by rfl) ?_); intro v a w' hE hd hf; skip; clear hd hf; intro K hK; go_simp; go_at_call 23; go_split_ands; (with_reducible refine Calls.mono (Of_f _ 1 (by decide) (by decide)) ?_); rintro e w2 ⟨x, rfl, e2, hx⟩; exact hK.out _ _ e2 hx (FreshIf.no rfl) }) ?_
    refine RgAll.cons (by { (with_reducible refine RgL.mk (by rfl) ?_); intro v a w' hE hd hf; have d0 : (IsI 6 (((bb : Int)) * ((bb : Int)))) (v 2) w' := hd 2 (by kernel_rfl); have ev0 := hf.val 2 114 _ rfl (by kernel_rfl) (by kernel_rfl) (by kernel_rfl); have d1 : (IsI 2 1) (v 3) w' := hd 3 (by kernel_rfl); have ev1 := hf.val 3 115 _ rfl (by kernel_rfl) (by kernel_rfl) (by kernel_rfl); clear hd hf; intro K hK; go_simp; go_at_call 22; go_split_ands; (with_reducible refine Calls.mono (Sub_f d0 d1 (by decide) (by decide)) ?_); rintro e w2 ⟨x, rfl, e2, hx⟩; exact hK.out _ _ e2 hx (FreshIf.no rfl) }) ?_
    refine RgAll.cons (by { (with_reducible refine RgL.mk (by rfl) ?_); intro v a w' hE hd hf; have d0 : (IsI 7 ((((bb : Int)) * ((bb : Int))) - 1)) (v 4) w' := hd 4 (by kernel_rfl); have ev0 := hf.val 4 116 _ rfl (by kernel_rfl) (by kernel_rfl) (by kernel_rfl); clear hd hf; intro K hK; go_simp; go_at_call 24; go_split_ands; (with_reducible refine Calls.mono (Sqrt_f d0 (by decide) HQ0.out (bb - 1) HQR.out) ?_); rintro e w2 ⟨x, rfl, e2, hx⟩; exact hK.out _ _ e2 hx (FreshIf.no rfl) }) ?_
    refine RgAll.cons (by { (with_reducible refine RgL.mk (by rfl) ?_); intro v a w' hE hd hf; have d0 : (IsT3 (IsI 7 (((bb - 1 : Nat) : Int))) (IsI 7 ((bb : Int) * (bb : Int) - 1 - ((bb - 1 : Nat) : Int) * ((bb - 1 : Nat) : Int))) (IsV (.int .i64 0))) (v 5) w' := hd 5 (by kernel_rfl); have ev0 := hf.val 5 117 _ rfl (by kernel_rfl) (by kernel_rfl) (by kernel_rfl); clear hd hf; intro K hK; go_simp; exact hK.out _ _ (Ext.refl _) d0 (FreshIf.no rfl) }) ?_
    refine RgAll.cons (by { (with_reducible refine RgL.mk (by rfl) ?_); intro v a w' hE hd hf; have d0 : (IsT3 (IsI 7 (((bb - 1 : Nat) : Int))) (IsI 7 ((bb : Int) * (bb : Int) - 1 - ((bb - 1 : Nat) : Int) * ((bb - 1 : Nat) : Int))) (IsV (.int .i64 0))) (v 6) w' := hd 6 (by kernel_rfl); obtain ⟨x0, x1, x2, z0, y0, y1, y2⟩ := d0; have ev0 := hf.val 6 111 _ z0 (by kernel_rfl) (by kernel_rfl) (by kernel_rfl); clear z0; clear hd hf; intro K hK; go_simp; exact hK.out _ _ (Ext.refl _) y0 (FreshIf.no rfl) }) ?_
    refine RgAll.cons (by { (with_reducible refine RgL.mk (by rfl) ?_); intro v a w' hE hd hf; have d0 : (IsT3 (IsI 7 (((bb - 1 : Nat) : Int))) (IsI 7 ((bb : Int) * (bb : Int) - 1 - ((bb - 1 : Nat) : Int) * ((bb - 1 : Nat) : Int))) (IsV (.int .i64 0))) (v 6) w' := hd 6 (by kernel_rfl); obtain ⟨x0, x1, x2, z0, y0, y1, y2⟩ := d0; have ev0 := hf.val 6 111 _ z0 (by kernel_rfl) (by kernel_rfl) (by kernel_rfl); clear z0; clear hd hf; intro K hK; go_simp; exact hK.out _ _ (Ext.refl _) y1 (FreshIf.no rfl) }) ?_
    refine RgAll.cons (by { (with_reducible refine RgL.mk (by rfl) ?_); intro v a w' hE hd hf; have d0 : (IsT3 (IsI 7 (((bb - 1 : Nat) : Int))) (IsI 7 ((bb : Int) * (bb : Int) - 1 - ((bb - 1 : Nat) : Int) * ((bb - 1 : Nat) : Int))) (IsV (.int .i64 0))) (v 6) w' := hd 6 (by kernel_rfl); obtain ⟨x0, x1, x2, z0, y0, y1, y2⟩ := d0; have ev0 := hf.val 6 111 _ z0 (by kernel_rfl) (by kernel_rfl) (by kernel_rfl); clear z0; clear hd hf; intro K hK; go_simp; exact hK.out _ _ (Ext.refl _) y2 (FreshIf.no rfl) }) ?_
    refine RgAll.cons (by { (with_reducible refine RgL.mk (by rfl) ?_); intro v a w' hE hd hf; skip; clear hd hf; intro K hK; go_simp; refine hK.out _ _ ((Ext.refl _).alloc _) ⟨_, rfl, hE.size, Bx.new _ _ _ _ _⟩ FreshIf.yes }) ?_
    refine RgAll.cons (by { (with_reducible refine RgL.mk (by rfl) ?_); intro v a w' hE hd hf; skip; clear hd hf; intro K hK; go_simp; refine hK.out _ _ ((Ext.refl _).alloc _) ⟨_, rfl, hE.size, Bx.new _ _ _ _ _⟩ FreshIf.yes }) ?_
    exact RgAll.nil
  intro v W21 e1 hΦ hne
  replace S := S.mono e1
  obtain ⟨s118, a118, n118, c118, v7, h118⟩ := (hΦ 7 (by decide) : IsI 7 (((bb - 1 : Nat) : Int)) (v 7) W21)
  obtain ⟨s119, a119, n119, c119, v8, h119⟩ := (hΦ 8 (by decide) : IsI 7 ((bb : Int) * (bb : Int) - 1 - ((bb - 1 : Nat) : Int) * ((bb - 1 : Nat) : Int)) (v 8) W21)
  have v9 : v 9 = .int .i64 0 := hΦ 9 (by decide)
  obtain ⟨g23, v10, q18, b17⟩ := (hΦ 10 (by decide) : IsB W20 (v 10) W21)
  replace S := S.addN (Apart.old hl.out q18) (Nat.le_trans hw q18) b17
  clear b17
  obtain ⟨g24, v11, q20, b19⟩ := (hΦ 11 (by decide) : IsB W20 (v 11) W21)
  replace S := S.addN (Apart.cons (fun h => hne 10 11 (by decide) (by decide) (by decide) (by decide) (by decide) (by rw [v10, v11, h])) (Apart.old hl.out q20)) (Nat.le_trans hw q20) b19
  clear b19
  clear hne
  simp only [layL, Act.put, List.setIfInBounds_toArray, List.set_cons_zero, List.set_cons_succ, Nat.reduceAdd]
  rw [v7, v8, v9, v10, v11]
  clear v7 v8 v9 v10 v11
  clear hΦ
  clear hl hw
  clear e1
  obtain ⟨s8, a8, n8, c8, b8, _⟩ := S.at 1 (g23) (IsI 0 0) rfl; have F1 := b8.c0; have F2 := b8.c1; have F3 := b8.f0; have F4 := b8.f1
  refine wpList_step fun K hK => ?_; go_simp; refine hK _ _ ?_; clear hK K
  clear F1 F2 F3 F4 b8
  obtain ⟨W22, hW, S2, G2, _⟩ := S.put 1 (g23) (IsI 0 0) (IsI 7 (((bb - 1 : Nat) : Int))) rfl s118 a118 n118 c118 (IsI.gstb _ _) ⟨_, _, _, _, rfl, h118⟩
  rw [← hW]; clear hW S
  replace h119 := h119.gr G2
  have S : St w W22 [(g24, IsI 0 0), (g23, IsI 7 (((bb - 1 : Nat) : Int))), (g22, IsI 4 (((bb : Int)) - 1)), (g20, IsI 128 ((bb : Int))), (g18, IsI 128 ((bb : Int) ^ (1 + jj))), (g17, IsI 3 ((bb : Int))), (g15, IsI 128 (za ^ (ii + jj))), (g13, IsI 128 (za ^ (jj))), (g11, IsI 128 (za ^ (ii))), (g8, IsI 3 za), (w.heap.size, IsR s1 x1)] := S2; clear S2 G2
  clear h118
  obtain ⟨s8, a8, n8, c8, b8, _⟩ := S.at 0 (g24) (IsI 0 0) rfl; have F1 := b8.c0; have F2 := b8.c1; have F3 := b8.f0; have F4 := b8.f1
  refine wpList_step fun K hK => ?_; go_simp; refine hK _ _ ?_; clear hK K
  clear F1 F2 F3 F4 b8
  obtain ⟨W23, hW, S2, G2, _⟩ := S.put 0 (g24) (IsI 0 0) (IsI 7 ((bb : Int) * (bb : Int) - 1 - ((bb - 1 : Nat) : Int) * ((bb - 1 : Nat) : Int))) rfl s119 a119 n119 c119 (IsI.gstb _ _) ⟨_, _, _, _, rfl, h119⟩
  rw [← hW]; clear hW S
  have S : St w W23 [(g24, IsI 7 ((bb : Int) * (bb : Int) - 1 - ((bb - 1 : Nat) : Int) * ((bb - 1 : Nat) : Int))), (g23, IsI 7 (((bb - 1 : Nat) : Int))), (g22, IsI 4 (((bb : Int)) - 1)), (g20, IsI 128 ((bb : Int))), (g18, IsI 128 ((bb : Int) ^ (1 + jj))), (g17, IsI 3 ((bb : Int))), (g15, IsI 128 (za ^ (ii + jj))), (g13, IsI 128 (za ^ (jj))), (g11, IsI 128 (za ^ (ii))), (g8, IsI 3 za), (w.heap.size, IsR s1 x1)] := S2; clear S2 G2
  clear h119
  refine wpList_step fun K hK => ?_; go_simp; refine hK _ _ ?_; clear hK K
  refine wpList_nil ?_
  go_upto_region 21 with (fail)
  refine wp_region_rg 18 [some 121, some 122, some 123, some 124, some 125, some 126, some 127, some 128, some 129, some 130, some 131, some 132, some 133, some 134, some 135, some 136, some 137, some 6] [IsV (.bool true), IsV (.bool true), IsV (.int .i64 0), IsV (.bool true), IsV (.bool true), IsV (.bool true), IsI 7 (((bb - 1 : Nat) : Int)), IsI 4 (((bb : Int)) - 1), IsV (.bool true), IsV (.bool true), IsV (.bool true), IsI 7 ((bb : Int) * (bb : Int) - 1 - ((bb - 1 : Nat) : Int) * ((bb - 1 : Nat) : Int)), IsI 4 (((bb : Int)) - 1), IsI 2 2, IsI 6 ((((bb : Int)) - 1) * 2), IsV (.bool true), IsV (.bool true), IsV (.bool true)] [] 0 (by kernel_rfl) (by decide) (by kernel_rfl) (by kernel_rfl) (by kernel_rfl) (by kernel_rfl) (by kernel_rfl) ?_ ?_ ?_ ?_
  · repeat' (first | exact trivial | exact IsV.stb _ | exact IsI.stb _ _ | exact IsB.stb _ | exact IsR.stb _ _ | exact IsMag.stb _ _ | exact IsPos.stb | apply IsT3.stb | apply IsT2.stb | apply And.intro)
  · exact (fun _ h => by cases h)
  · refine RgAll.cons (by { (with_reducible refine RgL.mk (by rfl) ?_); intro v a w' hE hd hf; have ev0 := hf.lit 7 (.bool true) (by kernel_rfl) (by kernel_rfl); clear hd hf; intro K hK; go_simp; exact hK.out _ _ (Ext.refl _) rfl (FreshIf.no rfl) }) ?_
    refine RgAll.cons (by { (with_reducible refine RgL.mk (by rfl) ?_); intro v a w' hE hd hf; have d0 : v 0 = .bool true := hd 0 (by kernel_rfl); have ev0 := hf.val 0 121 _ d0 (by kernel_rfl) (by kernel_rfl) (by kernel_rfl); clear d0; clear hd hf; intro K hK; go_simp; exact hK.out _ _ (Ext.refl _) rfl (FreshIf.no rfl) }) ?_
    refine RgAll.cons (by { (with_reducible refine RgL.mkG 1 122 true (by rfl) (by kernel_rfl) (by kernel_rfl) (by kernel_rfl) (by kernel_rfl) (by kernel_rfl) ?_ ?_); (focus (intro _ _ h; exact h)); intro v a w' hE hd hf; have ev0 := hf.lit 25 (.int .i64 0) (by kernel_rfl) (by kernel_rfl); clear hd hf; intro K hK; go_simp; exact hK.out _ _ (Ext.refl _) rfl (FreshIf.no rfl) }) ?_
    refine RgAll.cons (by { (with_reducible refine RgL.mkG 1 122 true (by rfl) (by kernel_rfl) (by kernel_rfl) (by kernel_rfl) (by kernel_rfl) (by kernel_rfl) ?_ ?_); (focus (intro _ _ h; exact h)); intro v a w' hE hd hf; have d0 : v 2 = .int .i64 0 := hd 2 (by kernel_rfl); have ev0 := hf.val 2 123 _ d0 (by kernel_rfl) (by kernel_rfl) (by kernel_rfl); clear d0; clear hd hf; intro K hK; go_simp; exact hK.out _ _ (Ext.refl _) rfl (FreshIf.no rfl) }) ?_
    refine RgAll.cons (by { (with_reducible refine RgL.mk (by rfl) ?_); intro v a w' hE hd hf; have d0 : v 1 = .bool true := hd 1 (by kernel_rfl); have ev0 := hf.val 1 122 _ d0 (by kernel_rfl) (by kernel_rfl) (by kernel_rfl); clear d0; have d1 : v 3 = .bool true := hd 3 (by kernel_rfl); have ev1 := hf.val 3 124 _ d1 (by kernel_rfl) (by kernel_rfl) (by kernel_rfl); clear d1; clear hd hf; intro K hK; go_simp; exact hK.out _ _ (Ext.refl _) rfl (FreshIf.no rfl) }) ?_
    refine RgAll.cons (by { (with_reducible refine RgL.mk (by rfl) ?_); intro v a w' hE hd hf; have d0 : v 4 = .bool true := hd 4 (by kernel_rfl); have ev0 := hf.val 4 125 _ d0 (by kernel_rfl) (by kernel_rfl) (by kernel_rfl); clear d0; clear hd hf; intro K hK; go_simp; exact hK.out _ _ (Ext.refl _) rfl (FreshIf.no rfl) }) ?_
    refine RgAll.cons (by { (with_reducible refine RgL.mkG 5 126 true (by rfl) (by kernel_rfl) (by kernel_rfl) (by kernel_rfl) (by kernel_rfl) (by kernel_rfl) ?_ ?_); (focus (intro _ _ h; exact h)); intro v a w' hE hd hf; have ev0 := hf.lit 23 (.pointer (some ⟨g23, 0, none⟩)) (by kernel_rfl) (by kernel_rfl); obtain ⟨s8, a8, n8, c8, b8, h8⟩ := (S.mono hE).at 1 (g23) (IsI 7 (((bb - 1 : Nat) : Int))) rfl; have L0 := b8.c0; have L1 := b8.c1; clear hd hf; intro K hK; go_simp; exact hK.out _ _ (Ext.refl _) h8 (FreshIf.no rfl) }) ?_
    refine RgAll.cons (by { (with_reducible refine RgL.mkG 5 126 true (by rfl) (by kernel_rfl) (by kernel_rfl) (by kernel_rfl) (by kernel_rfl) (by kernel_rfl) ?_ ?_); (focus (intro _ _ h; exact h)); intro v a w' hE hd hf; have ev0 := hf.lit 22 (.pointer (some ⟨g22, 0, none⟩)) (by kernel_rfl) (by kernel_rfl); obtain ⟨s8, a8, n8, c8, b8, h8⟩ := (S.mono hE).at 2 (g22) (IsI 4 (((bb : Int)) - 1)) rfl; have L0 := b8.c0; have L1 := b8.c1; clear hd hf; intro K hK; go_simp; exact hK.out _ _ (Ext.refl _) h8 (FreshIf.no rfl) }) ?_
    refine RgAll.cons (by { (with_reducible refine RgL.mkG 5 126 true (by rfl) (by kernel_rfl) (by kernel_rfl) (by kernel_rfl) (by kernel_rfl) (by kernel_rfl) ?_ ?_); (focus (intro _ _ h; exact h)); intro v a w' hE hd hf; have d0 : (IsI 7 (((bb - 1 : Nat) : Int))) (v 6) w' := hd 6 (by kernel_rfl); have ev0 := hf.val 6 127 _ rfl (by kernel_rfl) (by kernel_rfl) (by kernel_rfl); have d1 : (IsI 4 (((bb : Int)) - 1)) (v 7) w' := hd 7 (by kernel_rfl); have ev1 := hf.val 7 128 _ rfl (by kernel_rfl) (by kernel_rfl) (by kernel_rfl); clear hd hf; intro K hK; go_simp; go_at_call 14; go_split_ands; (with_reducible refine Calls.mono (Same_t d0 d1 (HC1.out) (by decide)) ?_); rintro e w2 ⟨x, rfl, e2, hx⟩; exact hK.out _ _ e2 hx (FreshIf.no rfl) }) ?_
    refine RgAll.cons (by { (with_reducible refine RgL.mk (by rfl) ?_); intro v a w' hE hd hf; have d0 : v 5 = .bool true := hd 5 (by kernel_rfl); have ev0 := hf.val 5 126 _ d0 (by kernel_rfl) (by kernel_rfl) (by kernel_rfl); clear d0; have d1 : v 8 = .bool true := hd 8 (by kernel_rfl); have ev1 := hf.val 8 129 _ d1 (by kernel_rfl) (by kernel_rfl) (by kernel_rfl); clear d1; clear hd hf; intro K hK; go_simp; exact hK.out _ _ (Ext.refl _) rfl (FreshIf.no rfl) }) ?_
    refine RgAll.cons (by { (with_reducible refine RgL.mk (by rfl) ?_); intro v a w' hE hd hf; have d0 : v 9 = .bool true := hd 9 (by kernel_rfl); have ev0 := hf.val 9 130 _ d0 (by kernel_rfl) (by kernel_rfl) (by kernel_rfl); clear d0; clear hd hf; intro K hK; go_simp; exact hK.out _ _ (Ext.refl _) rfl (FreshIf.no rfl) }) ?_
    refine RgAll.cons (by { (with_reducible refine RgL.mkG 10 131 true (by rfl) (by kernel_rfl) (by kernel_rfl) (by kernel_rfl) (by kernel_rfl) (by kernel_rfl) ?_ ?_); (focus (intro _ _ h; exact h)); intro v a w' hE hd hf; have ev0 := hf.lit 24 (.pointer (some ⟨g24, 0, none⟩)) (by kernel_rfl) (by kernel_rfl); obtain ⟨s8, a8, n8, c8, b8, h8⟩ := (S.mono hE).at 0 (g24) (IsI 7 ((bb : Int) * (bb : Int) - 1 - ((bb - 1 : Nat) : Int) * ((bb - 1 : Nat) : Int))) rfl; have L0 := b8.c0; have L1 := b8.c1; clear hd hf; intro K hK; go_simp; exact hK.out _ _ (Ext.refl _) h8 (FreshIf.no rfl) }) ?_
    refine RgAll.cons (by { (with_reducible refine RgL.mkG 10 131 true (by rfl) (by kernel_rfl) (by kernel_rfl) (by kernel_rfl) (by kernel_rfl) (by kernel_rfl) ?_ ?_); (focus (intro _ _ h; exact h)); intro v a w' hE hd hf; have ev0 := hf.lit 22 (.pointer (some ⟨g22, 0, none⟩)) (by kernel_rfl) (by kernel_rfl); obtain ⟨s8, a8, n8, c8, b8, h8⟩ := (S.mono hE).at 2 (g22) (IsI 4 (((bb : Int)) - 1)) rfl; have L0 := b8.c0; have L1 := b8.c1; clear hd hf; intro K hK; go_simp; exact hK.out _ _ (Ext.refl _) h8 (FreshIf.no rfl) }) ?_
    refine RgAll.cons (by { (with_reducible refine RgL.mkG 10 131 true (by rfl) (by kernel_rfl) (by kernel_rfl) (by kernel_rfl) (by kernel_rfl) (by kernel_rfl) ?_ ?_); (focus (intro _ _ h; exact h)); intro v a w' hE hd hf; skip; clear hd hf; intro K hK; go_simp; go_at_call 23; go_split_ands; (with_reducible refine Calls.mono (Of_f _ 2 (by decide) (by decide)) ?_); rintro e w2 ⟨x, rfl, e2, hx⟩; exact hK.out _ _ e2 hx (FreshIf.no rfl) }) ?_
    refine RgAll.cons (by { (with_reducible refine RgL.mkG 10 131 true (by rfl) (by kernel_rfl) (by kernel_rfl) (by kernel_rfl) (by kernel_rfl) (by kernel_rfl) ?_ ?_); (focus (intro _ _ h; exact h)); intro v a w' hE hd hf; have d0 : (IsI 4 (((bb : Int)) - 1)) (v 12) w' := hd 12 (by kernel_rfl); have ev0 := hf.val 12 133 _ rfl (by kernel_rfl) (by kernel_rfl) (by kernel_rfl); have d1 : (IsI 2 2) (v 13) w' := hd 13 (by kernel_rfl); have ev1 := hf.val 13 134 _ rfl (by kernel_rfl) (by kernel_rfl) (by kernel_rfl); clear hd hf; intro K hK; go_simp; go_at_call 13; go_split_ands; (with_reducible refine Calls.mono (Mul_f d0 d1 (by decide) (by decide)) ?_); rintro e w2 ⟨x, rfl, e2, hx⟩; exact hK.out _ _ e2 hx (FreshIf.no rfl) }) ?_
    refine RgAll.cons (by { (with_reducible refine RgL.mkG 10 131 true (by rfl) (by kernel_rfl) (by kernel_rfl) (by kernel_rfl) (by kernel_rfl) (by kernel_rfl) ?_ ?_); (focus (intro _ _ h; exact h)); intro v a w' hE hd hf; have d0 : (IsI 7 ((bb : Int) * (bb : Int) - 1 - ((bb - 1 : Nat) : Int) * ((bb - 1 : Nat) : Int))) (v 11) w' := hd 11 (by kernel_rfl); have ev0 := hf.val 11 132 _ rfl (by kernel_rfl) (by kernel_rfl) (by kernel_rfl); have d1 : (IsI 6 ((((bb : Int)) - 1) * 2)) (v 14) w' := hd 14 (by kernel_rfl); have ev1 := hf.val 14 135 _ rfl (by kernel_rfl) (by kernel_rfl) (by kernel_rfl); clear hd hf; intro K hK; go_simp; go_at_call 14; go_split_ands; (with_reducible refine Calls.mono (Same_t d0 d1 (HC2.out) (by decide)) ?_); rintro e w2 ⟨x, rfl, e2, hx⟩; exact hK.out _ _ e2 hx (FreshIf.no rfl) }) ?_
    refine RgAll.cons (by { (with_reducible refine RgL.mk (by rfl) ?_); intro v a w' hE hd hf; have d0 : v 10 = .bool true := hd 10 (by kernel_rfl); have ev0 := hf.val 10 131 _ d0 (by kernel_rfl) (by kernel_rfl) (by kernel_rfl); clear d0; have d1 : v 15 = .bool true := hd 15 (by kernel_rfl); have ev1 := hf.val 15 136 _ d1 (by kernel_rfl) (by kernel_rfl) (by kernel_rfl); clear d1; clear hd hf; intro K hK; go_simp; exact hK.out _ _ (Ext.refl _) rfl (FreshIf.no rfl) }) ?_
    refine RgAll.cons (by { (with_reducible refine RgL.mk (by rfl) ?_); intro v a w' hE hd hf; have d0 : v 16 = .bool true := hd 16 (by kernel_rfl); have ev0 := hf.val 16 137 _ d0 (by kernel_rfl) (by kernel_rfl) (by kernel_rfl); clear d0; clear hd hf; intro K hK; go_simp; exact hK.out _ _ (Ext.refl _) rfl (FreshIf.no rfl) }) ?_
    exact RgAll.nil
  intro v W24 e1 hΦ _
  replace S := S.mono e1
  have v17 : v 17 = .bool true := hΦ 17 (by decide)
  simp only [layL, Act.put, List.setIfInBounds_toArray, List.set_cons_zero, List.set_cons_succ, Nat.reduceAdd]
  rw [v17]
  clear v17
  clear hΦ
  clear e1
  refine wpAny_done (by kernel_rfl) ?_ _
  go_wp2_with fail
  exact bodyPost_ret (v := .bool true) (by simp [results, Tryd.results5, go_sem]) rfl (⟨_, rfl, S.ext, rfl⟩)

theorem Powers_c (w : World) (s1 : Bool) (a1 : Option Addr) (n1 c1 : Nat) (x1 : List Nat) (nn kk : Int) (h1 : Wd w a1 n1 c1 x1) (ht : Tab w) (hn0 : 0 ≤ nn) (hk0 : 0 ≤ kk) :
    Calls Tryd.prog 5 #[.agg #[.bool s1, .slice a1 n1 c1], .int .u8 nn, .int .u8 kk] w (Ret w (IsV (.bool true))) := by
  have hlt : (rawZ s1 x1 3).natAbs < 4294967296 ^ 3 := by
    have h := natVal_lt (x1.take 3) (fun i => by
      rcases Nat.lt_or_ge i 3 with hi | hi
      · rw [getD_take _ _ _ hi]; exact h1.lt i
      · rw [List.getD_eq_getElem?_getD, List.getElem?_eq_none (by simp; omega)]; simp)
    have h2 : (4294967296 : Nat) ^ (x1.take 3).length ≤ 4294967296 ^ 3 := Nat.pow_le_pow_right (by decide) (by simp; omega)
    have h3 : (rawZ s1 x1 3).natAbs = natVal (x1.take 3) := by unfold rawZ; cases s1 <;> simp
    omega
  by_cases hz : (rawZ s1 x1 3).natAbs = 0
  · exact Powers_0 w s1 a1 n1 c1 x1 nn kk h1 ht hn0 hk0 _ _ (nn % 13).toNat (kk % 13).toNat rfl rfl hlt (by omega) (by omega) (by omega) (by omega) hz
  · exact Powers_1 w s1 a1 n1 c1 x1 nn kk h1 ht hn0 hk0 _ _ (nn % 13).toNat (kk % 13).toNat rfl rfl hlt (by omega) (by omega) (by omega) (by omega) hz
end Go.Proofs.YtpflfagjkmeeiaaDoor
namespace Go.Proofs.YtpflfagjkmeeiaaDoor
open Go Go.RowKit Go.ChangeShapes Go.WideShapes Go.ChangeAt

theorem wf_u8 (n : Int) (h : (Lit.int .u8 n).wf = true) : 0 ≤ n ∧ n ≤ 255 := by
  simp only [Lit.wf, Bool.and_eq_true, decide_eq_true_eq] at h
  have h1 : IntKind.min .u8 = 0 := rfl
  have h2 : IntKind.max .u8 = 255 := rfl
  rw [h1, h2] at h
  exact h
set_option maxRecDepth 100000 in
theorem integerPowers_lifted (os : Os) (started : os.Started) (H : Type) (enc : TypeId × Value → H) :
    ReturnsInHanded {} Tryd.checked os 5 .any (fun w args => (Rows.integerPowersSpec.pre enc Tryd.prog Tryd.f5 [] false w args ∧ laidMetH Tryd.prog laid3 w) ∧ sizedMet enc Tryd.prog Tryd.f5 (OpenSpec.ofChange Rows.integerPowersSpec) false w args)
      (Rows.integerPowersSpec.post enc Tryd.prog Tryd.f5 false true false false) := by
  refine returnsInHanded_of_change_and (C := Tryd.checked) (X := fun w _ => laidMetH Tryd.prog laid3 w) (fun _ _ _ hh h => h.of_heap hh) own started (by kernel_rfl) Tryd.func5
    (ChangeSpec.witness_shaped (enc := enc) (C := Tryd.checked) (os := os) (X := fun w _ => laidMetH Tryd.prog laid3 w) false (World.doorLaid Tryd.prog 2000 os) #[.agg #[.bool false, .slice none 0 0], .int .u8 0, .int .u8 0] 8 rfl (World.shaped_of_RefB (by kernel_rfl) (by kernel_rfl)) (by kernel_rfl) (by kernel_rfl) (by kernel_rfl) (door_met os _)) ?_
  intro W base args ds gs before hval0 hW _ _ hL _
  have hval : ∀ (j : Nat) t v, Tryd.f5.params[j]? = some t → args[j]? = some v → Value.okWide Tryd.prog W .any base t v := hval0
  have hW' := hW
  obtain ⟨p, q, hA0, hV, rfl, hfz, hnd⟩ := hW
  have hA : DataW.TrodAll enc Tryd.prog W 0 (fun _ => true) true Tryd.f5.params.toList args.toList ds p := hA0
  rw [Tryd.params5] at hA hval
  obtain ⟨v1, v2, v3, d1, d2, d3, p1, p2, p3, rfl, rfl, rfl, k1, k2, k3⟩ := trodAll_three hA
  obtain ⟨rfl, rfl⟩ := trodVars_none hV
  obtain ⟨s1, a1, n1, c1, x1, rfl, w1, r1⟩ := raw_open (hval 0 24 v1 rfl rfl) k1
  obtain ⟨m2, rfl, rfl, rfl, hw2⟩ := open_int Tryd.underlying5 (hval 1 5 v2 rfl rfl) k2
  obtain ⟨m3, rfl, rfl, rfl, hw3⟩ := open_int Tryd.underlying5 (hval 2 5 v3 rfl rfl) k3
  clear hA0 hval0
  have y2 := wf_u8 _ hw2
  have y3 := wf_u8 _ hw3
  refine (Powers_c W s1 a1 n1 c1 x1 m2 m3 w1 (tab_of_laid hL) y2.1 y3.1).mono fun e W' ⟨x, he, hb, hx⟩ => ?_
  have hx : x = .bool true := hx
  subst he; subst hx
  refine ⟨_, rfl, post_of_below (pa := p1 ++ ([] ++ [])) (pv := []) hW' (fun _ _ _ => trodAll_mk1 (shut_bool Tryd.underlying4 true)) (fun sp hsp => ?_) (fun _ _ => rfl) (by simp) hb (ok_one (by kernel_rfl) rfl (okWide_bool_mk Tryd.underlying4 _))⟩
  rw [Tryd.params5]
  exact trodAll_mk3 (r1 W' sp hb fun q hq => hsp q (by simp [hq])) (shut_int Tryd.underlying5 hw2) (shut_int Tryd.underlying5 hw3)

theorem integerPowers_row : Rows.IntegerPowersSaid :=
  OpenClaim.holds_of_wide 5 Tryd.f5 rfl rfl rfl rfl rfl rfl rfl ⟨rfl, rfl, rfl, rfl, rfl⟩ rfl rfl rfl rfl rfl (by kernel_rfl) Tryd.func5 (by kernel_rfl)
    (of_decide_eq_true (by kernel_rfl)) (by unfold Func.isWrapper; first | (rw [if_pos (by decide +kernel)]; kernel_rfl) | (rw [if_neg (by decide +kernel)]; exact ⟨rfl, rfl⟩))
    (fun os started H enc _ => integerPowers_lifted os started H enc)

set_option maxRecDepth 100000 in
/-- The tied card. -/
theorem integerPowers_holds : Rows.IntegerPowersCardSaid :=
  Claim7.holds_tied_plain_at .later [] [.data, .data, .data] true Rows.integerPowersCard.stood.harness false
    integerPowers_row (fun _ h => by cases h) (by kernel_rfl) (fun _ h => by cases h) integerPowers_row_tie rfl ⟨rfl, rfl⟩ (by kernel_rfl) rfl
    (fun f fn hf hfn => by
      obtain rfl : f = 5 := Option.some.inj ((show Tryd.prog.funcNamed "algorist/algoristlaw01.IntegerPowers" = some 5 by kernel_rfl).symm.trans hf) |>.symm
      obtain rfl : fn = Tryd.f5 := (Option.some.inj (Tryd.func5.symm.trans hfn)).symm
      refine ⟨by kernel_rfl, fun j t ht => ?_⟩
      rw [Tryd.params5] at ht
      have h3 : t = 24 ∨ t = 5 := by
        rcases j with _ | _ | _ | j
        · left; simpa using ht.symm
        · right; simpa using ht.symm
        · right; simpa using ht.symm
        · simp at ht
      rcases h3 with rfl | rfl
      · exact (show Tryd.prog.wantsStandIn 24 = false by kernel_rfl)
      · exact (show Tryd.prog.wantsStandIn 5 = false by kernel_rfl))
    (by kernel_rfl)
#print axioms integerPowers_holds
end Go.Proofs.YtpflfagjkmeeiaaDoor
