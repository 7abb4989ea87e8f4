/-
  Rows of fractions: Least and Greatest of the reference of package rational. (Printed by wip/gen/rat9.py, parted by hand.)
-/
import Derived.Test.YtcgdkfadcglekaaGreatDoorQ4
import Derived.Test.YtcgdkfadcglekaaGreatDoorQL
namespace Go.Proofs.YtcgdkfadcglekaaGreatDoor
open Go Go.RowKit

theorem cmpQ_nlt {p q : Rat} (h : ¬p < q) : decide (cmpQ p q < 0) = false := by
  rw [rat_lt] at h
  unfold cmpQ cmpI
  rw [if_neg h, decide_eq_false_iff_not]
  split <;> decide
theorem cmpQ_ngt {p q : Rat} (h : ¬q < p) : decide (0 < cmpQ p q) = false := by
  rw [rat_lt] at h
  unfold cmpQ cmpI
  rw [decide_eq_false_iff_not]
  split <;> first | decide | (rw [if_neg h]; decide)

set_option maxRecDepth 100000 in
set_option maxHeartbeats 8000000 in
theorem rqLeast_f {K : Nat} {q0 : Rat} {qs : List Rat} {x : Value} {w : World} (hx : IsL K (q0 :: qs) x w) (hK : K ≤ 100000) (hbig : qs.length ≤ 1000000) : Calls Tryz.prog 107 #[x] w (Ret w (IsRat K (leastR q0 qs))) := by
  obtain ⟨gl, rfl, hgl, hel⟩ := hx
  obtain ⟨n, hnl⟩ : ∃ n, (q0 :: qs).length = n := ⟨_, rfl⟩
  rw [hnl]
  have HLEN := hid (show qs.length + 1 = n from hnl)
  have HBIG := hid (show n ≤ 1000001 by have := HLEN.out; omega)
  have HN := hid (show 0 < n by have := HLEN.out; omega)
  have HK := hid hK
  have HL := hid (show ∀ (j : Nat) (q : Rat), (q0 :: qs)[j]? = some q → ∀ w', Ext w w' → ∀ w2, Ext w' w2 → (∃ s a n c, Bo w2 gl (2 * j) s a n c ∧ IsI K q.num (.agg #[.bool s, .slice a n c]) w2) ∧ ∃ s a n c, Bo w2 gl (2 * j + 1) s a n c ∧ IsI K (q.den : Int) (.agg #[.bool s, .slice a n c]) w2 from
    fun j q hq w' e1 w2 e2 => by
      obtain ⟨⟨s, a, n, c, b, k⟩, s', a', n', c', b', k'⟩ := hel j q hq
      have e := e1.trans e2
      exact ⟨⟨s, a, n, c, b.ext e, k.ext e⟩, s', a', n', c', b'.ext e, k'.ext e⟩)
  have HE0 := hid (HL.out 0 q0 rfl)
  clear hel hnl hK hbig hgl
  obtain ⟨W, hW, S⟩ : ∃ W, W = w.alloc (.cells #[.bool false, .slice none 0 0, .bool false, .slice none 0 0] 31) ∧ Sto w W [((w.heap.size, 1), IsI 0 0), ((w.heap.size, 0), IsI 0 0)] := ⟨_, rfl, ((Sto.start w).new2 (w.heap.size) (by simp) false false none none 0 0 0 0 31 (IsI 0 0) (IsI 0 0) (IsI.gstb _ _) (IsI.nil _ _) (IsI.gstb _ _) (IsI.nil _ _))⟩
  go_enter Tryz.func107, Tryz.ntmps107
  go_upto_region 1 with (fail)
  rw [← hW]
  clear hW
  have hl := hid S.lt; have hw := S.ext.size
  refine rgs 4 [some 5, some 6, some 7, some 3] [IsV (.slice (some ⟨gl, 0, none⟩) n n), IsV (.pointer (some ⟨gl, 2 * (2 * 0), none⟩)), IsQ (IsI K q0.num) (IsI K ((q0.den : Int))), IsBo W 2] [3] ?_ ?_
  · refine Rc (mv (Od.lit 0)) ?_
    refine Rc (ix (ix_Rat gl n n 0 HN.out) (Od.lc 0 5) Od.con) ?_
    refine Rc (ldX (HE0.out _ S.ext) (Od.lc 1 6) ld_Rat) ?_
    refine Rc (al al_Rat) ?_
    exact RgAll.nil
  intro v W1 e1 hΦ _
  replace S := S.mono e1
  have h7 := hΦ 2 (by decide)
  obtain ⟨g3, v3, q2, b1, _⟩ := (hΦ 3 (by decide) : IsBo W 2 (v 3) W1)
  replace S := S.addN 2 (ApartO.old hl.out q2) (Nat.le_trans hw q2) b1
  simp only [newF, List.cons_append, List.nil_append] at S
  simp only [layL, Act.put, List.setIfInBounds_toArray, List.set_cons_zero, List.set_cons_succ, Nat.reduceAdd]
  rw [v3]
  clear b1 hl hw v3 hΦ e1
  try simp only [List.drop_succ_cons, List.drop_zero]
  (with_reducible refine stL ?_ (by rfl)); intro KK hKK; refine stQ S 1 0 (g3) 0 h7 (IsI.gstb _ _) (IsI.gstb _ _) st_Rat (fun W2 S2 G2 => hKK _ _ ?_) rfl rfl
  replace S := S2; clear S2 G2 hKK KK h7
  simp only [List.set_cons_zero, List.set_cons_succ] at S
  refine wpList_nil ?_
  go_upto_region 2 with (fail)
  refine rgs 1 [some 4] [IsV (.int .i64 1)] [] ?_ ?_
  · refine Rc (mv Od.con) ?_
    exact RgAll.nil
  intro v W3 e1 hΦ _
  replace S := S.mono e1
  have v0 : v 0 = .int .i64 1 := hΦ 0 (by decide)
  simp only [layL, Act.put, List.setIfInBounds_toArray, List.set_cons_zero, List.set_cons_succ]
  rw [v0]
  clear v0 hΦ e1
  refine wpList_nil ?_
  go_wp2_with fail
  have S0 := hid (show Sto w W3 [((g3, 1), IsI K (((leastR q0 []).den : Int))), ((g3, 0), IsI K ((leastR q0 []).num)), ((w.heap.size, 1), IsI 0 0), ((w.heap.size, 0), IsI 0 0)] from S); clear S
  go_loopg [4] (n - 1) (fun gk v4 wr => ∃ i : Nat, v4 = .int .i64 ((i : Int) + 1) ∧ i + 1 + gk = n ∧ Hid (Sto w wr [((g3, 1), IsI K (((leastR q0 (qs.take i)).den : Int))), ((g3, 0), IsI K ((leastR q0 (qs.take i)).num)), ((w.heap.size, 1), IsI 0 0), ((w.heap.size, 0), IsI 0 0)]))
  case atStart => exact ⟨0, rfl, by have := HN.out; omega, S0⟩
  case round =>
    clear S0
    obtain ⟨i, rfl, hn, S⟩ := hrel
    have S := S.out
    obtain ⟨m, hm⟩ : ∃ m, leastR q0 (qs.take i) = m := ⟨_, rfl⟩
    rw [hm] at S
    rcases Nat.eq_zero_or_pos gk with hg | hg
    · subst hg
      have hi : qs.take i = qs := List.take_of_length_le (by have := HLEN.out; omega)
      rw [hi] at hm
      have HLT := hid (show ((n : Nat) : Int) ≤ (i : Int) + 1 by omega)
      have HM := hid hm; clear hm hn hi
      go_upto_region 3 with (fail)
      refine rgs 4 [some 8, some 9, some 10, some 11] [IsV (.int .i64 ((i : Int) + 1)), IsV (.slice (some ⟨gl, 0, none⟩) n n), IsV (.int .i64 ((n : Nat) : Int)), IsV (.bool false)] [] ?_ ?_
      · refine Rc (mv (Od.lit 4)) ?_
        refine Rc (mv (Od.lit 0)) ?_
        refine RgAll.cons (by { (with_reducible refine RgL.mk (by rfl) ?_); intro v a w' hE hd hf; have d0 : v 1 = .slice (some ⟨gl, 0, none⟩) n n := hd 1 (by kernel_rfl); have ev0 := hf.val 1 9 _ d0 (by kernel_rfl) (by kernel_rfl) (by kernel_rfl); clear d0; clear hd hf; intro K hK; go_simp; exact hK.out _ _ (Ext.refl _) rfl (FreshIf.no rfl) }) ?_
        refine Rc (bn (r := .bool false) (Od.loc 0 8) (Od.loc 2 10) (hr := fun w => by have hx9 := HLT.out; go_simp)) ?_
        exact RgAll.nil
      intro v W4 e1 hΦ _
      replace S := S.mono e1
      have v3 : v 3 = .bool false := hΦ 3 (by decide)
      simp only [layL, Act.put, List.setIfInBounds_toArray, List.set_cons_zero, List.set_cons_succ, Nat.reduceAdd]
      rw [v3]
      clear v3 hΦ e1
      refine wpList_nil ?_
      go_upto_region 7 with (fail)
      refine rgs 1 [some 25] [IsQ (IsI K m.num) (IsI K ((m.den : Int)))] [] ?_ ?_
      · refine Rc (ldQ S 1 0 (g3) 0 (Od.lit 3) ld_Rat rfl rfl) ?_
        exact RgAll.nil
      intro v W5 e1 hΦ _
      replace S := S.mono e1
      have h25 := hΦ 0 (by decide)
      simp only [layL, Act.put, List.setIfInBounds_toArray, List.set_cons_zero, List.set_cons_succ]
      clear hΦ e1
      try simp only [List.drop_succ_cons, List.drop_zero]
      (with_reducible refine stL ?_ (by rfl)); intro KK hKK; refine stQ S 3 2 (w.heap.size) 0 h25 (IsI.gstb _ _) (IsI.gstb _ _) st_Rat (fun W6 S2 G2 => hKK _ _ ?_) rfl rfl
      replace S := S2; clear S2 G2 hKK KK h25
      simp only [List.set_cons_zero, List.set_cons_succ] at S
      refine wpList_nil ?_
      go_wp2_with fail
      obtain ⟨s90x, a90x, n90x, c90x, b90x, h90x⟩ := S.at 3 (w.heap.size) 0 (IsI K m.num) rfl; have L90xa : World.cell? W6 ⟨w.heap.size, 0, none⟩ = some (.bool s90x) := b90x.c0; have L90xb : World.cell? W6 ⟨w.heap.size, 1, none⟩ = some (.slice a90x n90x c90x) := b90x.c1
      obtain ⟨s90y, a90y, n90y, c90y, b90y, h90y⟩ := S.at 2 (w.heap.size) 1 (IsI K ((m.den : Int))) rfl; have L90ya : World.cell? W6 ⟨w.heap.size, 2, none⟩ = some (.bool s90y) := b90y.c0; have L90yb : World.cell? W6 ⟨w.heap.size, 3, none⟩ = some (.slice a90y n90y c90y) := b90y.c1
      exact bodyPost_ret (v := .agg #[.bool s90x, .slice a90x n90x c90x, .bool s90y, .slice a90y n90y c90y]) (by simp [results, Tryz.results107, go_sem, L90xa, L90xb, L90ya, L90yb]) rfl (⟨_, rfl, S.ext, HM.out ▸ ⟨_, _, _, _, _, _, _, _, rfl, h90x, h90y⟩⟩)
    · skip
      obtain ⟨xx, hxx⟩ : ∃ x, qs[i]? = some x := ⟨_, List.getElem?_eq_getElem (by have := HLEN.out; omega)⟩
      have HX := hid (HL.out (i + 1) xx (by rw [List.getElem?_cons_succ]; exact hxx))
      have htk : qs.take (i + 1) = qs.take i ++ [xx] := by rw [List.take_add_one, hxx]; rfl
      by_cases hlt : xx < m
      · have hstep : leastR q0 (qs.take (i + 1)) = xx := by rw [htk, leastR_snoc, hm, if_pos hlt]
        obtain ⟨cc, hcc⟩ : ∃ c, cmpQ xx m = c := ⟨_, rfl⟩
        have hcmp : cmpQ xx m = cc ∧ decide (cc < 0) = true := ⟨hcc, by rw [← hcc, cmpQ_lt hlt]; rfl⟩
        clear hcc hlt htk hxx
        have HLT := hid (show (i : Int) + 1 < ((n : Nat) : Int) by omega)
        have HIN := hid (show i + 1 < n by omega)
        have HST := hid hstep; have HCM := hid hcmp; have HHN := hid hn; have HHG := hid hg
        have HADD := hid (show IntKind.i64.wrap ((i : Int) + 1 + 1) = (i : Int) + 1 + 1 by have := HBIG.out; simp only [IntKind.wrap_i64]; omega)
        clear hm hn hg hstep hcmp
        go_upto_region 3 with (fail)
        refine rgs 4 [some 8, some 9, some 10, some 11] [IsV (.int .i64 ((i : Int) + 1)), IsV (.slice (some ⟨gl, 0, none⟩) n n), IsV (.int .i64 ((n : Nat) : Int)), IsV (.bool true)] [] ?_ ?_
        · refine Rc (mv (Od.lit 4)) ?_
          refine Rc (mv (Od.lit 0)) ?_
          refine RgAll.cons (by { (with_reducible refine RgL.mk (by rfl) ?_); intro v a w' hE hd hf; have d0 : v 1 = .slice (some ⟨gl, 0, none⟩) n n := hd 1 (by kernel_rfl); have ev0 := hf.val 1 9 _ d0 (by kernel_rfl) (by kernel_rfl) (by kernel_rfl); clear d0; clear hd hf; intro K hK; go_simp; exact hK.out _ _ (Ext.refl _) rfl (FreshIf.no rfl) }) ?_
          refine Rc (bn (r := .bool true) (Od.loc 0 8) (Od.loc 2 10) (hr := fun w => by have hx9 := HLT.out; go_simp)) ?_
          exact RgAll.nil
        intro v W7 e1 hΦ _
        replace S := S.mono e1
        have v3 : v 3 = .bool true := hΦ 3 (by decide)
        simp only [layL, Act.put, List.setIfInBounds_toArray, List.set_cons_zero, List.set_cons_succ, Nat.reduceAdd]
        rw [v3]
        clear v3 hΦ e1
        refine wpList_nil ?_
        go_upto_region 5 with (fail)
        refine rg 7 [some 14, some 15, some 16, some 17, some 18, some 19, some 20] [IsV (.slice (some ⟨gl, 0, none⟩) n n), IsV (.int .i64 ((i : Int) + 1)), IsV (.pointer (some ⟨gl, 2 * (2 * (i + 1)), none⟩)), IsQ (IsI K xx.num) (IsI K ((xx.den : Int))), IsQ (IsI K m.num) (IsI K ((m.den : Int))), IsV (.int .i64 cc), IsV (.bool true)] [] 0 ?_ ?_
        · refine Rc (mv (Od.lit 0)) ?_
          refine Rc (mv (Od.lit 4)) ?_
          refine Rc (ix (ix_Rat1 gl n n i HIN.out) (Od.lc 0 14) (Od.lc 1 15)) ?_
          refine Rc (ldX (HX.out _ S.ext) (Od.lc 2 16) ld_Rat) ?_
          refine Rc (ldQ S 1 0 (g3) 0 (Od.lit 3) ld_Rat rfl rfl) ?_
          refine Rc (cl2 (en Tryz.func28) (Od.lc (Φ := IsQ (IsI K xx.num) (IsI K ((xx.den : Int)))) 3 17) (Od.lc (Φ := IsQ (IsI K m.num) (IsI K ((m.den : Int)))) 4 18) (fun x0 x1 w' hE d0 d1 => Calls.mono (rqCmp_f d0 d1 (by have := HK.out; omega) (by have := HK.out; omega)) fun _ _ h => h.int HCM.out.1)) ?_
          refine Rc (bn (r := .bool true) (Od.loc 5 19) Od.con (hr := fun w => by have hx9 := HCM.out.2; go_simp)) ?_
          exact RgAll.nil
        intro v W8 e1 hΦ _
        replace S := S.mono e1
        have v6 : v 6 = .bool true := hΦ 6 (by decide)
        simp only [layL, Act.put, List.setIfInBounds_toArray, List.set_cons_zero, List.set_cons_succ, Nat.reduceAdd]
        rw [v6]
        clear v6 hΦ e1
        refine wpAny_done (by kernel_rfl) ?_ _
        go_upto_region 6 with (fail)
        refine rgs 4 [some 21, some 22, some 23, some 24] [IsV (.slice (some ⟨gl, 0, none⟩) n n), IsV (.int .i64 ((i : Int) + 1)), IsV (.pointer (some ⟨gl, 2 * (2 * (i + 1)), none⟩)), IsQ (IsI K xx.num) (IsI K ((xx.den : Int)))] [] ?_ ?_
        · refine Rc (mv (Od.lit 0)) ?_
          refine Rc (mv (Od.lit 4)) ?_
          refine Rc (ix (ix_Rat1 gl n n i HIN.out) (Od.lc 0 21) (Od.lc 1 22)) ?_
          refine Rc (ldX (HX.out _ S.ext) (Od.lc 2 23) ld_Rat) ?_
          exact RgAll.nil
        intro v W9 e1 hΦ _
        replace S := S.mono e1
        have h24 := hΦ 3 (by decide)
        simp only [layL, Act.put, List.setIfInBounds_toArray, List.set_cons_zero, List.set_cons_succ, Nat.reduceAdd]
        clear hΦ e1
        try simp only [List.drop_succ_cons, List.drop_zero]
        (with_reducible refine stL ?_ (by rfl)); intro KK hKK; refine stQ S 1 0 (g3) 0 h24 (IsI.gstb _ _) (IsI.gstb _ _) st_Rat (fun W10 S2 G2 => hKK _ _ ?_) rfl rfl
        replace S := S2; clear S2 G2 hKK KK h24
        simp only [List.set_cons_zero, List.set_cons_succ] at S
        refine wpList_nil ?_
        go_upto_region 4 with (fail)
        have hx9 := HADD.out
        have S' := hid S; clear S
        go_wp2_with fail
        go_roundg (gk - 1)
        case measure => have := HHG.out; omega
        case rel => exact ⟨i + 1, by rw [Int.natCast_add]; rfl, by have := HHN.out; have := HHG.out; omega, by rw [HST.out]; exact S'⟩
      · have hstep : leastR q0 (qs.take (i + 1)) = m := by rw [htk, leastR_snoc, hm, if_neg hlt]
        obtain ⟨cc, hcc⟩ : ∃ c, cmpQ xx m = c := ⟨_, rfl⟩
        have hcmp : cmpQ xx m = cc ∧ decide (cc < 0) = false := ⟨hcc, by rw [← hcc]; exact cmpQ_nlt hlt⟩
        clear hcc hlt htk hxx
        have HLT := hid (show (i : Int) + 1 < ((n : Nat) : Int) by omega)
        have HIN := hid (show i + 1 < n by omega)
        have HST := hid hstep; have HCM := hid hcmp; have HHN := hid hn; have HHG := hid hg
        have HADD := hid (show IntKind.i64.wrap ((i : Int) + 1 + 1) = (i : Int) + 1 + 1 by have := HBIG.out; simp only [IntKind.wrap_i64]; omega)
        clear hm hn hg hstep hcmp
        go_upto_region 3 with (fail)
        refine rgs 4 [some 8, some 9, some 10, some 11] [IsV (.int .i64 ((i : Int) + 1)), IsV (.slice (some ⟨gl, 0, none⟩) n n), IsV (.int .i64 ((n : Nat) : Int)), IsV (.bool true)] [] ?_ ?_
        · refine Rc (mv (Od.lit 4)) ?_
          refine Rc (mv (Od.lit 0)) ?_
          refine RgAll.cons (by { (with_reducible refine RgL.mk (by rfl) ?_); intro v a w' hE hd hf; have d0 : v 1 = .slice (some ⟨gl, 0, none⟩) n n := hd 1 (by kernel_rfl); have ev0 := hf.val 1 9 _ d0 (by kernel_rfl) (by kernel_rfl) (by kernel_rfl); clear d0; clear hd hf; intro K hK; go_simp; exact hK.out _ _ (Ext.refl _) rfl (FreshIf.no rfl) }) ?_
          refine Rc (bn (r := .bool true) (Od.loc 0 8) (Od.loc 2 10) (hr := fun w => by have hx9 := HLT.out; go_simp)) ?_
          exact RgAll.nil
        intro v W11 e1 hΦ _
        replace S := S.mono e1
        have v3 : v 3 = .bool true := hΦ 3 (by decide)
        simp only [layL, Act.put, List.setIfInBounds_toArray, List.set_cons_zero, List.set_cons_succ, Nat.reduceAdd]
        rw [v3]
        clear v3 hΦ e1
        refine wpList_nil ?_
        go_upto_region 5 with (fail)
        refine rg 7 [some 14, some 15, some 16, some 17, some 18, some 19, some 20] [IsV (.slice (some ⟨gl, 0, none⟩) n n), IsV (.int .i64 ((i : Int) + 1)), IsV (.pointer (some ⟨gl, 2 * (2 * (i + 1)), none⟩)), IsQ (IsI K xx.num) (IsI K ((xx.den : Int))), IsQ (IsI K m.num) (IsI K ((m.den : Int))), IsV (.int .i64 cc), IsV (.bool false)] [] 0 ?_ ?_
        · refine Rc (mv (Od.lit 0)) ?_
          refine Rc (mv (Od.lit 4)) ?_
          refine Rc (ix (ix_Rat1 gl n n i HIN.out) (Od.lc 0 14) (Od.lc 1 15)) ?_
          refine Rc (ldX (HX.out _ S.ext) (Od.lc 2 16) ld_Rat) ?_
          refine Rc (ldQ S 1 0 (g3) 0 (Od.lit 3) ld_Rat rfl rfl) ?_
          refine Rc (cl2 (en Tryz.func28) (Od.lc (Φ := IsQ (IsI K xx.num) (IsI K ((xx.den : Int)))) 3 17) (Od.lc (Φ := IsQ (IsI K m.num) (IsI K ((m.den : Int)))) 4 18) (fun x0 x1 w' hE d0 d1 => Calls.mono (rqCmp_f d0 d1 (by have := HK.out; omega) (by have := HK.out; omega)) fun _ _ h => h.int HCM.out.1)) ?_
          refine Rc (bn (r := .bool false) (Od.loc 5 19) Od.con (hr := fun w => by have hx9 := HCM.out.2; go_simp)) ?_
          exact RgAll.nil
        intro v W12 e1 hΦ _
        replace S := S.mono e1
        have v6 : v 6 = .bool false := hΦ 6 (by decide)
        simp only [layL, Act.put, List.setIfInBounds_toArray, List.set_cons_zero, List.set_cons_succ, Nat.reduceAdd]
        rw [v6]
        clear v6 hΦ e1
        refine wpAny_done (by kernel_rfl) ?_ _
        go_upto_region 4 with (fail)
        have hx9 := HADD.out
        have S' := hid S; clear S
        go_wp2_with fail
        go_roundg (gk - 1)
        case measure => have := HHG.out; omega
        case rel => exact ⟨i + 1, by rw [Int.natCast_add]; rfl, by have := HHN.out; have := HHG.out; omega, by rw [HST.out]; exact S'⟩

set_option maxRecDepth 100000 in
set_option maxHeartbeats 8000000 in
theorem rqGreatest_f {K : Nat} {q0 : Rat} {qs : List Rat} {x : Value} {w : World} (hx : IsL K (q0 :: qs) x w) (hK : K ≤ 100000) (hbig : qs.length ≤ 1000000) : Calls Tryz.prog 108 #[x] w (Ret w (IsRat K (greatR q0 qs))) := by
  obtain ⟨gl, rfl, hgl, hel⟩ := hx
  obtain ⟨n, hnl⟩ : ∃ n, (q0 :: qs).length = n := ⟨_, rfl⟩
  rw [hnl]
  have HLEN := hid (show qs.length + 1 = n from hnl)
  have HBIG := hid (show n ≤ 1000001 by have := HLEN.out; omega)
  have HN := hid (show 0 < n by have := HLEN.out; omega)
  have HK := hid hK
  have HL := hid (show ∀ (j : Nat) (q : Rat), (q0 :: qs)[j]? = some q → ∀ w', Ext w w' → ∀ w2, Ext w' w2 → (∃ s a n c, Bo w2 gl (2 * j) s a n c ∧ IsI K q.num (.agg #[.bool s, .slice a n c]) w2) ∧ ∃ s a n c, Bo w2 gl (2 * j + 1) s a n c ∧ IsI K (q.den : Int) (.agg #[.bool s, .slice a n c]) w2 from
    fun j q hq w' e1 w2 e2 => by
      obtain ⟨⟨s, a, n, c, b, k⟩, s', a', n', c', b', k'⟩ := hel j q hq
      have e := e1.trans e2
      exact ⟨⟨s, a, n, c, b.ext e, k.ext e⟩, s', a', n', c', b'.ext e, k'.ext e⟩)
  have HE0 := hid (HL.out 0 q0 rfl)
  clear hel hnl hK hbig hgl
  obtain ⟨W, hW, S⟩ : ∃ W, W = w.alloc (.cells #[.bool false, .slice none 0 0, .bool false, .slice none 0 0] 31) ∧ Sto w W [((w.heap.size, 1), IsI 0 0), ((w.heap.size, 0), IsI 0 0)] := ⟨_, rfl, ((Sto.start w).new2 (w.heap.size) (by simp) false false none none 0 0 0 0 31 (IsI 0 0) (IsI 0 0) (IsI.gstb _ _) (IsI.nil _ _) (IsI.gstb _ _) (IsI.nil _ _))⟩
  go_enter Tryz.func108, Tryz.ntmps108
  go_upto_region 1 with (fail)
  rw [← hW]
  clear hW
  have hl := hid S.lt; have hw := S.ext.size
  refine rgs 4 [some 5, some 6, some 7, some 3] [IsV (.slice (some ⟨gl, 0, none⟩) n n), IsV (.pointer (some ⟨gl, 2 * (2 * 0), none⟩)), IsQ (IsI K q0.num) (IsI K ((q0.den : Int))), IsBo W 2] [3] ?_ ?_
  · refine Rc (mv (Od.lit 0)) ?_
    refine Rc (ix (ix_Rat gl n n 0 HN.out) (Od.lc 0 5) Od.con) ?_
    refine Rc (ldX (HE0.out _ S.ext) (Od.lc 1 6) ld_Rat) ?_
    refine Rc (al al_Rat) ?_
    exact RgAll.nil
  intro v W1 e1 hΦ _
  replace S := S.mono e1
  have h7 := hΦ 2 (by decide)
  obtain ⟨g3, v3, q2, b1, _⟩ := (hΦ 3 (by decide) : IsBo W 2 (v 3) W1)
  replace S := S.addN 2 (ApartO.old hl.out q2) (Nat.le_trans hw q2) b1
  simp only [newF, List.cons_append, List.nil_append] at S
  simp only [layL, Act.put, List.setIfInBounds_toArray, List.set_cons_zero, List.set_cons_succ, Nat.reduceAdd]
  rw [v3]
  clear b1 hl hw v3 hΦ e1
  try simp only [List.drop_succ_cons, List.drop_zero]
  (with_reducible refine stL ?_ (by rfl)); intro KK hKK; refine stQ S 1 0 (g3) 0 h7 (IsI.gstb _ _) (IsI.gstb _ _) st_Rat (fun W2 S2 G2 => hKK _ _ ?_) rfl rfl
  replace S := S2; clear S2 G2 hKK KK h7
  simp only [List.set_cons_zero, List.set_cons_succ] at S
  refine wpList_nil ?_
  go_upto_region 2 with (fail)
  refine rgs 1 [some 4] [IsV (.int .i64 1)] [] ?_ ?_
  · refine Rc (mv Od.con) ?_
    exact RgAll.nil
  intro v W3 e1 hΦ _
  replace S := S.mono e1
  have v0 : v 0 = .int .i64 1 := hΦ 0 (by decide)
  simp only [layL, Act.put, List.setIfInBounds_toArray, List.set_cons_zero, List.set_cons_succ]
  rw [v0]
  clear v0 hΦ e1
  refine wpList_nil ?_
  go_wp2_with fail
  have S0 := hid (show Sto w W3 [((g3, 1), IsI K (((greatR q0 []).den : Int))), ((g3, 0), IsI K ((greatR q0 []).num)), ((w.heap.size, 1), IsI 0 0), ((w.heap.size, 0), IsI 0 0)] from S); clear S
  go_loopg [4] (n - 1) (fun gk v4 wr => ∃ i : Nat, v4 = .int .i64 ((i : Int) + 1) ∧ i + 1 + gk = n ∧ Hid (Sto w wr [((g3, 1), IsI K (((greatR q0 (qs.take i)).den : Int))), ((g3, 0), IsI K ((greatR q0 (qs.take i)).num)), ((w.heap.size, 1), IsI 0 0), ((w.heap.size, 0), IsI 0 0)]))
  case atStart => exact ⟨0, rfl, by have := HN.out; omega, S0⟩
  case round =>
    clear S0
    obtain ⟨i, rfl, hn, S⟩ := hrel
    have S := S.out
    obtain ⟨m, hm⟩ : ∃ m, greatR q0 (qs.take i) = m := ⟨_, rfl⟩
    rw [hm] at S
    rcases Nat.eq_zero_or_pos gk with hg | hg
    · subst hg
      have hi : qs.take i = qs := List.take_of_length_le (by have := HLEN.out; omega)
      rw [hi] at hm
      have HLT := hid (show ((n : Nat) : Int) ≤ (i : Int) + 1 by omega)
      have HM := hid hm; clear hm hn hi
      go_upto_region 3 with (fail)
      refine rgs 4 [some 8, some 9, some 10, some 11] [IsV (.int .i64 ((i : Int) + 1)), IsV (.slice (some ⟨gl, 0, none⟩) n n), IsV (.int .i64 ((n : Nat) : Int)), IsV (.bool false)] [] ?_ ?_
      · refine Rc (mv (Od.lit 4)) ?_
        refine Rc (mv (Od.lit 0)) ?_
        refine RgAll.cons (by { (with_reducible refine RgL.mk (by rfl) ?_); intro v a w' hE hd hf; have d0 : v 1 = .slice (some ⟨gl, 0, none⟩) n n := hd 1 (by kernel_rfl); have ev0 := hf.val 1 9 _ d0 (by kernel_rfl) (by kernel_rfl) (by kernel_rfl); clear d0; clear hd hf; intro K hK; go_simp; exact hK.out _ _ (Ext.refl _) rfl (FreshIf.no rfl) }) ?_
        refine Rc (bn (r := .bool false) (Od.loc 0 8) (Od.loc 2 10) (hr := fun w => by have hx9 := HLT.out; go_simp)) ?_
        exact RgAll.nil
      intro v W4 e1 hΦ _
      replace S := S.mono e1
      have v3 : v 3 = .bool false := hΦ 3 (by decide)
      simp only [layL, Act.put, List.setIfInBounds_toArray, List.set_cons_zero, List.set_cons_succ, Nat.reduceAdd]
      rw [v3]
      clear v3 hΦ e1
      refine wpList_nil ?_
      go_upto_region 7 with (fail)
      refine rgs 1 [some 25] [IsQ (IsI K m.num) (IsI K ((m.den : Int)))] [] ?_ ?_
      · refine Rc (ldQ S 1 0 (g3) 0 (Od.lit 3) ld_Rat rfl rfl) ?_
        exact RgAll.nil
      intro v W5 e1 hΦ _
      replace S := S.mono e1
      have h25 := hΦ 0 (by decide)
      simp only [layL, Act.put, List.setIfInBounds_toArray, List.set_cons_zero, List.set_cons_succ]
      clear hΦ e1
      try simp only [List.drop_succ_cons, List.drop_zero]
      (with_reducible refine stL ?_ (by rfl)); intro KK hKK; refine stQ S 3 2 (w.heap.size) 0 h25 (IsI.gstb _ _) (IsI.gstb _ _) st_Rat (fun W6 S2 G2 => hKK _ _ ?_) rfl rfl
      replace S := S2; clear S2 G2 hKK KK h25
      simp only [List.set_cons_zero, List.set_cons_succ] at S
      refine wpList_nil ?_
      go_wp2_with fail
      obtain ⟨s90x, a90x, n90x, c90x, b90x, h90x⟩ := S.at 3 (w.heap.size) 0 (IsI K m.num) rfl; have L90xa : World.cell? W6 ⟨w.heap.size, 0, none⟩ = some (.bool s90x) := b90x.c0; have L90xb : World.cell? W6 ⟨w.heap.size, 1, none⟩ = some (.slice a90x n90x c90x) := b90x.c1
      obtain ⟨s90y, a90y, n90y, c90y, b90y, h90y⟩ := S.at 2 (w.heap.size) 1 (IsI K ((m.den : Int))) rfl; have L90ya : World.cell? W6 ⟨w.heap.size, 2, none⟩ = some (.bool s90y) := b90y.c0; have L90yb : World.cell? W6 ⟨w.heap.size, 3, none⟩ = some (.slice a90y n90y c90y) := b90y.c1
      exact bodyPost_ret (v := .agg #[.bool s90x, .slice a90x n90x c90x, .bool s90y, .slice a90y n90y c90y]) (by simp [results, Tryz.results108, go_sem, L90xa, L90xb, L90ya, L90yb]) rfl (⟨_, rfl, S.ext, HM.out ▸ ⟨_, _, _, _, _, _, _, _, rfl, h90x, h90y⟩⟩)
    · skip
      obtain ⟨xx, hxx⟩ : ∃ x, qs[i]? = some x := ⟨_, List.getElem?_eq_getElem (by have := HLEN.out; omega)⟩
      have HX := hid (HL.out (i + 1) xx (by rw [List.getElem?_cons_succ]; exact hxx))
      have htk : qs.take (i + 1) = qs.take i ++ [xx] := by rw [List.take_add_one, hxx]; rfl
      by_cases hlt : m < xx
      · have hstep : greatR q0 (qs.take (i + 1)) = xx := by rw [htk, greatR_snoc, hm, if_pos hlt]
        obtain ⟨cc, hcc⟩ : ∃ c, cmpQ xx m = c := ⟨_, rfl⟩
        have hcmp : cmpQ xx m = cc ∧ decide (0 < cc) = true := ⟨hcc, by rw [← hcc, cmpQ_gt hlt]; rfl⟩
        clear hcc hlt htk hxx
        have HLT := hid (show (i : Int) + 1 < ((n : Nat) : Int) by omega)
        have HIN := hid (show i + 1 < n by omega)
        have HST := hid hstep; have HCM := hid hcmp; have HHN := hid hn; have HHG := hid hg
        have HADD := hid (show IntKind.i64.wrap ((i : Int) + 1 + 1) = (i : Int) + 1 + 1 by have := HBIG.out; simp only [IntKind.wrap_i64]; omega)
        clear hm hn hg hstep hcmp
        go_upto_region 3 with (fail)
        refine rgs 4 [some 8, some 9, some 10, some 11] [IsV (.int .i64 ((i : Int) + 1)), IsV (.slice (some ⟨gl, 0, none⟩) n n), IsV (.int .i64 ((n : Nat) : Int)), IsV (.bool true)] [] ?_ ?_
        · refine Rc (mv (Od.lit 4)) ?_
          refine Rc (mv (Od.lit 0)) ?_
          refine RgAll.cons (by { (with_reducible refine RgL.mk (by rfl) ?_); intro v a w' hE hd hf; have d0 : v 1 = .slice (some ⟨gl, 0, none⟩) n n := hd 1 (by kernel_rfl); have ev0 := hf.val 1 9 _ d0 (by kernel_rfl) (by kernel_rfl) (by kernel_rfl); clear d0; clear hd hf; intro K hK; go_simp; exact hK.out _ _ (Ext.refl _) rfl (FreshIf.no rfl) }) ?_
          refine Rc (bn (r := .bool true) (Od.loc 0 8) (Od.loc 2 10) (hr := fun w => by have hx9 := HLT.out; go_simp)) ?_
          exact RgAll.nil
        intro v W7 e1 hΦ _
        replace S := S.mono e1
        have v3 : v 3 = .bool true := hΦ 3 (by decide)
        simp only [layL, Act.put, List.setIfInBounds_toArray, List.set_cons_zero, List.set_cons_succ, Nat.reduceAdd]
        rw [v3]
        clear v3 hΦ e1
        refine wpList_nil ?_
        go_upto_region 5 with (fail)
        refine rg 7 [some 14, some 15, some 16, some 17, some 18, some 19, some 20] [IsV (.slice (some ⟨gl, 0, none⟩) n n), IsV (.int .i64 ((i : Int) + 1)), IsV (.pointer (some ⟨gl, 2 * (2 * (i + 1)), none⟩)), IsQ (IsI K xx.num) (IsI K ((xx.den : Int))), IsQ (IsI K m.num) (IsI K ((m.den : Int))), IsV (.int .i64 cc), IsV (.bool true)] [] 0 ?_ ?_
        · refine Rc (mv (Od.lit 0)) ?_
          refine Rc (mv (Od.lit 4)) ?_
          refine Rc (ix (ix_Rat1 gl n n i HIN.out) (Od.lc 0 14) (Od.lc 1 15)) ?_
          refine Rc (ldX (HX.out _ S.ext) (Od.lc 2 16) ld_Rat) ?_
          refine Rc (ldQ S 1 0 (g3) 0 (Od.lit 3) ld_Rat rfl rfl) ?_
          refine Rc (cl2 (en Tryz.func28) (Od.lc (Φ := IsQ (IsI K xx.num) (IsI K ((xx.den : Int)))) 3 17) (Od.lc (Φ := IsQ (IsI K m.num) (IsI K ((m.den : Int)))) 4 18) (fun x0 x1 w' hE d0 d1 => Calls.mono (rqCmp_f d0 d1 (by have := HK.out; omega) (by have := HK.out; omega)) fun _ _ h => h.int HCM.out.1)) ?_
          refine Rc (bn (r := .bool true) (Od.loc 5 19) Od.con (hr := fun w => by have hx9 := HCM.out.2; go_simp)) ?_
          exact RgAll.nil
        intro v W8 e1 hΦ _
        replace S := S.mono e1
        have v6 : v 6 = .bool true := hΦ 6 (by decide)
        simp only [layL, Act.put, List.setIfInBounds_toArray, List.set_cons_zero, List.set_cons_succ, Nat.reduceAdd]
        rw [v6]
        clear v6 hΦ e1
        refine wpAny_done (by kernel_rfl) ?_ _
        go_upto_region 6 with (fail)
        refine rgs 4 [some 21, some 22, some 23, some 24] [IsV (.slice (some ⟨gl, 0, none⟩) n n), IsV (.int .i64 ((i : Int) + 1)), IsV (.pointer (some ⟨gl, 2 * (2 * (i + 1)), none⟩)), IsQ (IsI K xx.num) (IsI K ((xx.den : Int)))] [] ?_ ?_
        · refine Rc (mv (Od.lit 0)) ?_
          refine Rc (mv (Od.lit 4)) ?_
          refine Rc (ix (ix_Rat1 gl n n i HIN.out) (Od.lc 0 21) (Od.lc 1 22)) ?_
          refine Rc (ldX (HX.out _ S.ext) (Od.lc 2 23) ld_Rat) ?_
          exact RgAll.nil
        intro v W9 e1 hΦ _
        replace S := S.mono e1
        have h24 := hΦ 3 (by decide)
        simp only [layL, Act.put, List.setIfInBounds_toArray, List.set_cons_zero, List.set_cons_succ, Nat.reduceAdd]
        clear hΦ e1
        try simp only [List.drop_succ_cons, List.drop_zero]
        (with_reducible refine stL ?_ (by rfl)); intro KK hKK; refine stQ S 1 0 (g3) 0 h24 (IsI.gstb _ _) (IsI.gstb _ _) st_Rat (fun W10 S2 G2 => hKK _ _ ?_) rfl rfl
        replace S := S2; clear S2 G2 hKK KK h24
        simp only [List.set_cons_zero, List.set_cons_succ] at S
        refine wpList_nil ?_
        go_upto_region 4 with (fail)
        have hx9 := HADD.out
        have S' := hid S; clear S
        go_wp2_with fail
        go_roundg (gk - 1)
        case measure => have := HHG.out; omega
        case rel => exact ⟨i + 1, by rw [Int.natCast_add]; rfl, by have := HHN.out; have := HHG.out; omega, by rw [HST.out]; exact S'⟩
      · have hstep : greatR q0 (qs.take (i + 1)) = m := by rw [htk, greatR_snoc, hm, if_neg hlt]
        obtain ⟨cc, hcc⟩ : ∃ c, cmpQ xx m = c := ⟨_, rfl⟩
        have hcmp : cmpQ xx m = cc ∧ decide (0 < cc) = false := ⟨hcc, by rw [← hcc]; exact cmpQ_ngt hlt⟩
        clear hcc hlt htk hxx
        have HLT := hid (show (i : Int) + 1 < ((n : Nat) : Int) by omega)
        have HIN := hid (show i + 1 < n by omega)
        have HST := hid hstep; have HCM := hid hcmp; have HHN := hid hn; have HHG := hid hg
        have HADD := hid (show IntKind.i64.wrap ((i : Int) + 1 + 1) = (i : Int) + 1 + 1 by have := HBIG.out; simp only [IntKind.wrap_i64]; omega)
        clear hm hn hg hstep hcmp
        go_upto_region 3 with (fail)
        refine rgs 4 [some 8, some 9, some 10, some 11] [IsV (.int .i64 ((i : Int) + 1)), IsV (.slice (some ⟨gl, 0, none⟩) n n), IsV (.int .i64 ((n : Nat) : Int)), IsV (.bool true)] [] ?_ ?_
        · refine Rc (mv (Od.lit 4)) ?_
          refine Rc (mv (Od.lit 0)) ?_
          refine RgAll.cons (by { (with_reducible refine RgL.mk (by rfl) ?_); intro v a w' hE hd hf; have d0 : v 1 = .slice (some ⟨gl, 0, none⟩) n n := hd 1 (by kernel_rfl); have ev0 := hf.val 1 9 _ d0 (by kernel_rfl) (by kernel_rfl) (by kernel_rfl); clear d0; clear hd hf; intro K hK; go_simp; exact hK.out _ _ (Ext.refl _) rfl (FreshIf.no rfl) }) ?_
          refine Rc (bn (r := .bool true) (Od.loc 0 8) (Od.loc 2 10) (hr := fun w => by have hx9 := HLT.out; go_simp)) ?_
          exact RgAll.nil
        intro v W11 e1 hΦ _
        replace S := S.mono e1
        have v3 : v 3 = .bool true := hΦ 3 (by decide)
        simp only [layL, Act.put, List.setIfInBounds_toArray, List.set_cons_zero, List.set_cons_succ, Nat.reduceAdd]
        rw [v3]
        clear v3 hΦ e1
        refine wpList_nil ?_
        go_upto_region 5 with (fail)
        refine rg 7 [some 14, some 15, some 16, some 17, some 18, some 19, some 20] [IsV (.slice (some ⟨gl, 0, none⟩) n n), IsV (.int .i64 ((i : Int) + 1)), IsV (.pointer (some ⟨gl, 2 * (2 * (i + 1)), none⟩)), IsQ (IsI K xx.num) (IsI K ((xx.den : Int))), IsQ (IsI K m.num) (IsI K ((m.den : Int))), IsV (.int .i64 cc), IsV (.bool false)] [] 0 ?_ ?_
        · refine Rc (mv (Od.lit 0)) ?_
          refine Rc (mv (Od.lit 4)) ?_
          refine Rc (ix (ix_Rat1 gl n n i HIN.out) (Od.lc 0 14) (Od.lc 1 15)) ?_
          refine Rc (ldX (HX.out _ S.ext) (Od.lc 2 16) ld_Rat) ?_
          refine Rc (ldQ S 1 0 (g3) 0 (Od.lit 3) ld_Rat rfl rfl) ?_
          refine Rc (cl2 (en Tryz.func28) (Od.lc (Φ := IsQ (IsI K xx.num) (IsI K ((xx.den : Int)))) 3 17) (Od.lc (Φ := IsQ (IsI K m.num) (IsI K ((m.den : Int)))) 4 18) (fun x0 x1 w' hE d0 d1 => Calls.mono (rqCmp_f d0 d1 (by have := HK.out; omega) (by have := HK.out; omega)) fun _ _ h => h.int HCM.out.1)) ?_
          refine Rc (bn (r := .bool false) (Od.loc 5 19) Od.con (hr := fun w => by have hx9 := HCM.out.2; go_simp)) ?_
          exact RgAll.nil
        intro v W12 e1 hΦ _
        replace S := S.mono e1
        have v6 : v 6 = .bool false := hΦ 6 (by decide)
        simp only [layL, Act.put, List.setIfInBounds_toArray, List.set_cons_zero, List.set_cons_succ, Nat.reduceAdd]
        rw [v6]
        clear v6 hΦ e1
        refine wpAny_done (by kernel_rfl) ?_ _
        go_upto_region 4 with (fail)
        have hx9 := HADD.out
        have S' := hid S; clear S
        go_wp2_with fail
        go_roundg (gk - 1)
        case measure => have := HHG.out; omega
        case rel => exact ⟨i + 1, by rw [Int.natCast_add]; rfl, by have := HHN.out; have := HHG.out; omega, by rw [HST.out]; exact S'⟩

set_option maxRecDepth 100000 in
set_option maxHeartbeats 4000000 in
theorem rqSpan_f {k : Nat} {pa pb : Rat} {x y : Value} {w : World} (hx : IsRat k pa x w) (hy : IsRat k pb y w) (hk : k ≤ 100000) : Calls Tryz.prog 56 #[x, y] w (Ret w (IsIv k (leastR pa [pb]) (greatR pa [pb]))) := by
  have HK := hid hk
  clear hk
  obtain ⟨s1x, a1x, n1x, c1x, s1y, a1y, n1y, c1y, rfl, h1x, h1y⟩ := hx
  obtain ⟨s2x, a2x, n2x, c2x, s2y, a2y, n2y, c2y, rfl, h2x, h2y⟩ := hy
  obtain ⟨W, hW, S⟩ : ∃ W, W = ((w.alloc (.cells #[.bool s1x, .slice a1x n1x c1x, .bool s1y, .slice a1y n1y c1y] 31)).alloc (.cells #[.bool s2x, .slice a2x n2x c2x, .bool s2y, .slice a2y n2y c2y] 31)).alloc (.cells #[.bool false, .slice none 0 0, .bool false, .slice none 0 0, .bool false, .slice none 0 0, .bool false, .slice none 0 0] 44) ∧ Sto w W [((w.heap.size + 1 + 1, 3), IsI 0 0), ((w.heap.size + 1 + 1, 2), IsI 0 0), ((w.heap.size + 1 + 1, 1), IsI 0 0), ((w.heap.size + 1 + 1, 0), IsI 0 0), ((w.heap.size + 1, 1), IsI k ((pb.den : Int))), ((w.heap.size + 1, 0), IsI k pb.num), ((w.heap.size, 1), IsI k ((pa.den : Int))), ((w.heap.size, 0), IsI k pa.num)] := ⟨_, rfl, ((((Sto.start w).new2 (w.heap.size) (by simp) s1x s1y a1x a1y n1x c1x n1y c1y 31 (IsI k pa.num) (IsI k ((pa.den : Int))) (IsI.gstb _ _) (h1x) (IsI.gstb _ _) (h1y)).new2 (w.heap.size + 1) (by simp) s2x s2y a2x a2y n2x c2x n2y c2y 31 (IsI k pb.num) (IsI k ((pb.den : Int))) (IsI.gstb _ _) (h2x.ext ((Ext.refl _).alloc _)) (IsI.gstb _ _) (h2y.ext ((Ext.refl _).alloc _))).new4 (w.heap.size + 1 + 1) (by simp) false false false false none none none none 0 0 0 0 0 0 0 0 44 (IsI 0 0) (IsI 0 0) (IsI 0 0) (IsI 0 0) (IsI.gstb _ _) (IsI.nil _ _) (IsI.gstb _ _) (IsI.nil _ _) (IsI.gstb _ _) (IsI.nil _ _) (IsI.gstb _ _) (IsI.nil _ _))⟩
  clear h1x h1y h2x h2y
  go_enter Tryz.func56, Tryz.ntmps56
  go_upto_region 1 with (fail)
  rw [← hW]
  clear hW
  refine rgs 4 [some 6, some 7, some 8, some 5] [IsQ (IsI k pa.num) (IsI k ((pa.den : Int))), IsQ (IsI k pb.num) (IsI k ((pb.den : Int))), IsL k [pa, pb], IsL k [pa, pb]] [] ?_ ?_ (hst := by repeat' (first | exact trivial | exact IsL.stb _ _ | exact IsV.stb _ | exact IsI.stb _ _ | exact IsBo.stb _ _ | apply IsJ.stb | apply IsQ.stb | apply And.intro))
  · refine Rc (ldQ S 7 6 (w.heap.size) 0 (Od.lit 2) ld_Rat rfl rfl) ?_
    refine Rc (ldQ S 5 4 (w.heap.size + 1) 0 (Od.lit 3) ld_Rat rfl rfl) ?_
    refine Rc (bS2 (K := k) (Od.loc 0 6) (Od.loc 1 7) (by first | decide | omega) (by first | decide | omega)) ?_
    refine Rc (mv (Od.lc 2 8)) ?_
    exact RgAll.nil
  intro v W1 e1 hΦ _
  replace S := S.mono e1
  obtain ⟨u5, hu5, k5⟩ : ∃ u, v 3 = u ∧ (IsL k [pa, pb]) u W1 := ⟨_, rfl, hΦ 3 (by decide)⟩
  simp only [layL, Act.put, List.setIfInBounds_toArray, List.set_cons_zero, List.set_cons_succ, Nat.reduceAdd]
  rw [hu5]
  clear hu5 hΦ e1
  refine wpList_nil ?_
  go_upto_region 2 with (fail)
  refine rgs 5 [some 9, some 10, some 11, some 12, some 13] [IsL k [pa, pb], IsQ (IsI k ((leastR pa [pb]).num)) (IsI k (((leastR pa [pb]).den : Int))), IsL k [pa, pb], IsQ (IsI k ((greatR pa [pb]).num)) (IsI k (((greatR pa [pb]).den : Int))), IsJ (IsI k ((leastR pa [pb]).num)) (IsI k (((leastR pa [pb]).den : Int))) (IsI k ((greatR pa [pb]).num)) (IsI k (((greatR pa [pb]).den : Int)))] [] ?_ ?_ (hst := by repeat' (first | exact trivial | exact IsL.stb _ _ | exact IsV.stb _ | exact IsI.stb _ _ | exact IsBo.stb _ _ | apply IsJ.stb | apply IsQ.stb | apply And.intro))
  · refine Rc (mv (Od.frm 5 k5 (IsL.stb _ _))) ?_
    refine Rc (cl1 (en Tryz.func107) (Od.lc (Φ := IsL k [pa, pb]) 0 9) (fun x0 w' hE d0 => rqLeast_f d0 (by have := HK.out; omega) (by simp))) ?_
    refine Rc (mv (Od.frm 5 k5 (IsL.stb _ _))) ?_
    refine Rc (cl1 (en Tryz.func108) (Od.lc (Φ := IsL k [pa, pb]) 2 11) (fun x0 w' hE d0 => rqGreatest_f d0 (by have := HK.out; omega) (by simp))) ?_
    refine Rc (bj (Od.loc 1 10) (Od.loc 3 12) bd_Iv) ?_
    exact RgAll.nil
  intro v W2 e1 hΦ _
  replace S := S.mono e1
  replace k5 := (IsL.stb _ _) _ _ _ e1 k5
  have h13 := hΦ 4 (by decide)
  simp only [layL, Act.put, List.setIfInBounds_toArray, List.set_cons_zero, List.set_cons_succ, Nat.reduceAdd]
  clear hΦ e1
  try simp only [List.drop_succ_cons, List.drop_zero]
  (with_reducible refine stL ?_ (by rfl)); intro KK hKK; refine stJ S 3 2 1 0 (w.heap.size + 1 + 1) 0 h13 (IsI.gstb _ _) (IsI.gstb _ _) (IsI.gstb _ _) (IsI.gstb _ _) st_Iv (fun W3 S2 G2 => hKK _ _ ?_) rfl rfl rfl rfl
  replace S := S2; clear S2 G2 hKK KK h13
  simp only [List.set_cons_zero, List.set_cons_succ] at S
  refine wpList_nil ?_
  go_wp2_with fail
  obtain ⟨s90x, a90x, n90x, c90x, b90x, h90x⟩ := S.at 3 (w.heap.size + 1 + 1) 0 (IsI k ((leastR pa [pb]).num)) rfl; have L90xa : World.cell? W3 ⟨w.heap.size + 1 + 1, 0, none⟩ = some (.bool s90x) := b90x.c0; have L90xb : World.cell? W3 ⟨w.heap.size + 1 + 1, 1, none⟩ = some (.slice a90x n90x c90x) := b90x.c1
  obtain ⟨s90y, a90y, n90y, c90y, b90y, h90y⟩ := S.at 2 (w.heap.size + 1 + 1) 1 (IsI k (((leastR pa [pb]).den : Int))) rfl; have L90ya : World.cell? W3 ⟨w.heap.size + 1 + 1, 2, none⟩ = some (.bool s90y) := b90y.c0; have L90yb : World.cell? W3 ⟨w.heap.size + 1 + 1, 3, none⟩ = some (.slice a90y n90y c90y) := b90y.c1
  obtain ⟨s90z, a90z, n90z, c90z, b90z, h90z⟩ := S.at 1 (w.heap.size + 1 + 1) 2 (IsI k ((greatR pa [pb]).num)) rfl; have L90za : World.cell? W3 ⟨w.heap.size + 1 + 1, 4, none⟩ = some (.bool s90z) := b90z.c0; have L90zb : World.cell? W3 ⟨w.heap.size + 1 + 1, 5, none⟩ = some (.slice a90z n90z c90z) := b90z.c1
  obtain ⟨s90t, a90t, n90t, c90t, b90t, h90t⟩ := S.at 0 (w.heap.size + 1 + 1) 3 (IsI k (((greatR pa [pb]).den : Int))) rfl; have L90ta : World.cell? W3 ⟨w.heap.size + 1 + 1, 6, none⟩ = some (.bool s90t) := b90t.c0; have L90tb : World.cell? W3 ⟨w.heap.size + 1 + 1, 7, none⟩ = some (.slice a90t n90t c90t) := b90t.c1
  exact bodyPost_ret (v := .agg #[.bool s90x, .slice a90x n90x c90x, .bool s90y, .slice a90y n90y c90y, .bool s90z, .slice a90z n90z c90z, .bool s90t, .slice a90t n90t c90t]) (by simp [results, Tryz.results56, go_sem, L90xa, L90xb, L90ya, L90yb, L90za, L90zb, L90ta, L90tb]) rfl (⟨_, rfl, S.ext, ⟨_, _, _, _, _, _, _, _, _, _, _, _, _, _, _, _, rfl, h90x, h90y, h90z, h90t⟩⟩)
end Go.Proofs.YtcgdkfadcglekaaGreatDoor
