/-
  ends of package rational: the interval from the least to the greatest of some fractions. (Printed by wip/gen/rat11.py.)
-/
import Derived.Test.YtcgdkfadcglekaaGreatDoorQ9
namespace Go.Proofs.YtcgdkfadcglekaaGreatDoor
open Go Go.RowKit

theorem ix_RatN (g n c j : Nat) (h : j < n) (w : World) : (Instr.indexAt 59 (.slice (some ⟨g, 0, none⟩) n c) (.int .i64 ((j : Nat) : Int))).run Tryz.prog w = .ok (.pointer (some ⟨g, 2 * (2 * j), none⟩)) w := ix_Rat g n c j h w

set_option maxRecDepth 100000 in
set_option maxHeartbeats 8000000 in
theorem qends_f {K : Nat} {q0 : Rat} {qs : List Rat} {x y : Value} {w : World} (hx : IsRat K q0 x w) (hy : IsL K qs y w) (hK : K ≤ 100000) (hbig : qs.length ≤ 1000000) : Calls Tryz.prog 109 #[x, y] w (Ret w (IsIv K (leastR q0 qs) (greatR q0 qs))) := by
  obtain ⟨s1x, a1x, n1x, c1x, s1y, a1y, n1y, c1y, rfl, h1x, h1y⟩ := hx
  obtain ⟨gl, rfl, hgl, hel⟩ := hy
  obtain ⟨n, hnl⟩ : ∃ n, qs.length = n := ⟨_, rfl⟩
  rw [hnl]
  have HLEN := hid hnl
  have HBIG := hid (show n ≤ 1000000 by omega)
  have HK := hid hK
  have HL := hid (show ∀ (j : Nat) (q : Rat), qs[j]? = some q → ∀ w', Ext w w' → ∀ w2, Ext w' w2 → (∃ s a n c, Bo w2 gl (2 * j) s a n c ∧ IsI K q.num (.agg #[.bool s, .slice a n c]) w2) ∧ ∃ s a n c, Bo w2 gl (2 * j + 1) s a n c ∧ IsI K (q.den : Int) (.agg #[.bool s, .slice a n c]) w2 from
    fun j q hq w' e1 w2 e2 => by
      obtain ⟨⟨s, a, n, c, b, k⟩, s', a', n', c', b', k'⟩ := hel j q hq
      have e := e1.trans e2
      exact ⟨⟨s, a, n, c, b.ext e, k.ext e⟩, s', a', n', c', b'.ext e, k'.ext e⟩)
  clear hel hnl hK hbig hgl
  obtain ⟨W, hW, S⟩ : ∃ W, W = (w.alloc (.cells #[.bool s1x, .slice a1x n1x c1x, .bool s1y, .slice a1y n1y c1y] 31)).alloc (.cells #[.bool false, .slice none 0 0, .bool false, .slice none 0 0, .bool false, .slice none 0 0, .bool false, .slice none 0 0] 44) ∧ Sto w W [((w.heap.size + 1, 3), IsI 0 0), ((w.heap.size + 1, 2), IsI 0 0), ((w.heap.size + 1, 1), IsI 0 0), ((w.heap.size + 1, 0), IsI 0 0), ((w.heap.size, 1), IsI K ((q0.den : Int))), ((w.heap.size, 0), IsI K q0.num)] := ⟨_, rfl, (((Sto.start w).new2 (w.heap.size) (by simp) s1x s1y a1x a1y n1x c1x n1y c1y 31 (IsI K q0.num) (IsI K ((q0.den : Int))) (IsI.gstb _ _) (h1x) (IsI.gstb _ _) (h1y)).new4 (w.heap.size + 1) (by simp) false false false false none none none none 0 0 0 0 0 0 0 0 44 (IsI 0 0) (IsI 0 0) (IsI 0 0) (IsI 0 0) (IsI.gstb _ _) (IsI.nil _ _) (IsI.gstb _ _) (IsI.nil _ _) (IsI.gstb _ _) (IsI.nil _ _) (IsI.gstb _ _) (IsI.nil _ _))⟩
  clear h1x h1y
  go_enter Tryz.func109, Tryz.ntmps109
  go_upto_region 1 with (fail)
  rw [← hW]
  clear hW
  have hl := hid S.lt; have hw := S.ext.size
  refine rgs 3 [some 8, some 9, some 5] [IsQ (IsI K q0.num) (IsI K ((q0.den : Int))), IsJ (IsI K q0.num) (IsI K ((q0.den : Int))) (IsI K q0.num) (IsI K ((q0.den : Int))), IsBo W 4] [2] ?_ ?_
  · refine Rc (ldQ S 5 4 (w.heap.size) 0 (Od.lit 2) ld_Rat rfl rfl) ?_
    refine Rc (cl1 (en Tryz.func69) (Od.lc (Φ := IsQ (IsI K q0.num) (IsI K ((q0.den : Int)))) 0 8) (fun x0 w' hE d0 => qExactly_f d0)) ?_
    refine Rc (al al_Iv) ?_
    exact RgAll.nil
  intro v W1 e1 hΦ _
  replace S := S.mono e1
  have h9 := hΦ 1 (by decide)
  obtain ⟨g5, v2, q2, b1, _⟩ := (hΦ 2 (by decide) : IsBo W 4 (v 2) W1)
  replace S := S.addN 4 (ApartO.old hl.out q2) (Nat.le_trans hw q2) b1
  simp only [newF, List.cons_append, List.nil_append] at S
  simp only [layL, Act.put, List.setIfInBounds_toArray, List.set_cons_zero, List.set_cons_succ, Nat.reduceAdd]
  rw [v2]
  clear b1 hl hw v2 hΦ e1
  try simp only [List.drop_succ_cons, List.drop_zero]
  (with_reducible refine stL ?_ (by rfl)); intro KK hKK; refine stJ S 3 2 1 0 (g5) 0 h9 (IsI.gstb _ _) (IsI.gstb _ _) (IsI.gstb _ _) (IsI.gstb _ _) st_Iv (fun W2 S2 G2 => hKK _ _ ?_) rfl rfl rfl rfl
  replace S := S2; clear S2 G2 hKK KK h9
  simp only [List.set_cons_zero, List.set_cons_succ] at S
  refine wpList_nil ?_
  go_upto_region 2 with (fail)
  refine rgs 3 [some 10, some 11, some 12] [IsV (.slice (some ⟨gl, 0, none⟩) n n), IsV (.int .i64 ((n : Nat) : Int)), IsV (.int .i64 0)] [] ?_ ?_
  · refine Rc (mv (Od.lit 1)) ?_
    refine RgAll.cons (by { (with_reducible refine RgL.mk (by rfl) ?_); intro v a w' hE hd hf; have d0 : v 0 = .slice (some ⟨gl, 0, none⟩) n n := hd 0 (by kernel_rfl); have ev0 := hf.val 0 10 _ d0 (by kernel_rfl) (by kernel_rfl) (by kernel_rfl); clear d0; clear hd hf; intro K hK; go_simp; exact hK.out _ _ (Ext.refl _) rfl (FreshIf.no rfl) }) ?_
    refine Rc (mv Od.con) ?_
    exact RgAll.nil
  intro v W3 e1 hΦ _
  replace S := S.mono e1
  have v0 : v 0 = .slice (some ⟨gl, 0, none⟩) n n := hΦ 0 (by decide)
  have v1 : v 1 = .int .i64 ((n : Nat) : Int) := hΦ 1 (by decide)
  have v2 : v 2 = .int .i64 0 := hΦ 2 (by decide)
  simp only [layL, Act.put, List.setIfInBounds_toArray, List.set_cons_zero, List.set_cons_succ, Nat.reduceAdd]
  rw [v0, v1, v2]
  clear v0 v1 v2 hΦ e1
  refine wpList_nil ?_
  go_wp2_with fail
  have S0 := hid (show Sto w W3 [((g5, 3), IsI K (((greatR q0 []).den : Int))), ((g5, 2), IsI K ((greatR q0 []).num)), ((g5, 1), IsI K (((leastR q0 []).den : Int))), ((g5, 0), IsI K ((leastR q0 []).num)), ((w.heap.size + 1, 3), IsI 0 0), ((w.heap.size + 1, 2), IsI 0 0), ((w.heap.size + 1, 1), IsI 0 0), ((w.heap.size + 1, 0), IsI 0 0), ((w.heap.size, 1), IsI K ((q0.den : Int))), ((w.heap.size, 0), IsI K q0.num)] from S); clear S
  go_loopg [12] n (fun gk v12 wr => ∃ i : Nat, v12 = .int .i64 ((i : Nat) : Int) ∧ i + gk = n ∧ Hid (Sto w wr [((g5, 3), IsI K (((greatR q0 (qs.take i)).den : Int))), ((g5, 2), IsI K ((greatR q0 (qs.take i)).num)), ((g5, 1), IsI K (((leastR q0 (qs.take i)).den : Int))), ((g5, 0), IsI K ((leastR q0 (qs.take i)).num)), ((w.heap.size + 1, 3), IsI 0 0), ((w.heap.size + 1, 2), IsI 0 0), ((w.heap.size + 1, 1), IsI 0 0), ((w.heap.size + 1, 0), IsI 0 0), ((w.heap.size, 1), IsI K ((q0.den : Int))), ((w.heap.size, 0), IsI K q0.num)]))
  case atStart => exact ⟨0, rfl, by omega, S0⟩
  case round =>
    clear S0
    obtain ⟨i, rfl, hn, S⟩ := hrel
    have S := S.out
    obtain ⟨lo, hlo⟩ : ∃ m, leastR q0 (qs.take i) = m := ⟨_, rfl⟩
    obtain ⟨hi, hhi⟩ : ∃ m, greatR q0 (qs.take i) = m := ⟨_, rfl⟩
    rw [hlo, hhi] at S
    rcases Nat.eq_zero_or_pos gk with hg | hg
    · subst hg
      have htk : qs.take i = qs := List.take_of_length_le (by have := HLEN.out; omega)
      rw [htk] at hlo hhi
      have HLT := hid (show n ≤ i by omega)
      have HM := hid hlo; have HM2 := hid hhi; clear hlo hhi hn htk
      go_upto_region 3 with (fail)
      refine rgs 1 [some 13] [IsV (.bool false)] [] ?_ ?_
      · refine Rc (bn (r := .bool false) (Od.lit (x := .int .i64 ((i : Nat) : Int)) 12) (Od.lit (x := .int .i64 ((n : Nat) : Int)) 11) (hr := fun w => by have hx9 := HLT.out; go_simp)) ?_
        exact RgAll.nil
      intro v W4 e1 hΦ _
      replace S := S.mono e1
      have v0 : v 0 = .bool false := hΦ 0 (by decide)
      simp only [layL, Act.put, List.setIfInBounds_toArray, List.set_cons_zero, List.set_cons_succ]
      rw [v0]
      clear v0 hΦ e1
      refine wpList_nil ?_
      go_upto_region 10 with (fail)
      refine rgs 1 [some 31] [IsJ (IsI K lo.num) (IsI K ((lo.den : Int))) (IsI K hi.num) (IsI K ((hi.den : Int)))] [] ?_ ?_
      · refine Rc (ldJ S 3 2 1 0 (g5) 0 (Od.lit 5) ld_Iv rfl rfl rfl rfl) ?_
        exact RgAll.nil
      intro v W5 e1 hΦ _
      replace S := S.mono e1
      have h31 := hΦ 0 (by decide)
      simp only [layL, Act.put, List.setIfInBounds_toArray, List.set_cons_zero, List.set_cons_succ]
      clear hΦ e1
      try simp only [List.drop_succ_cons, List.drop_zero]
      (with_reducible refine stL ?_ (by rfl)); intro KK hKK; refine stJ S 7 6 5 4 (w.heap.size + 1) 0 h31 (IsI.gstb _ _) (IsI.gstb _ _) (IsI.gstb _ _) (IsI.gstb _ _) st_Iv (fun W6 S2 G2 => hKK _ _ ?_) rfl rfl rfl rfl
      replace S := S2; clear S2 G2 hKK KK h31
      simp only [List.set_cons_zero, List.set_cons_succ] at S
      refine wpList_nil ?_
      go_wp2_with fail
      obtain ⟨s90x, a90x, n90x, c90x, b90x, h90x⟩ := S.at 7 (w.heap.size + 1) 0 (IsI K lo.num) rfl; have L90xa : World.cell? W6 ⟨w.heap.size + 1, 0, none⟩ = some (.bool s90x) := b90x.c0; have L90xb : World.cell? W6 ⟨w.heap.size + 1, 1, none⟩ = some (.slice a90x n90x c90x) := b90x.c1
      obtain ⟨s90y, a90y, n90y, c90y, b90y, h90y⟩ := S.at 6 (w.heap.size + 1) 1 (IsI K ((lo.den : Int))) rfl; have L90ya : World.cell? W6 ⟨w.heap.size + 1, 2, none⟩ = some (.bool s90y) := b90y.c0; have L90yb : World.cell? W6 ⟨w.heap.size + 1, 3, none⟩ = some (.slice a90y n90y c90y) := b90y.c1
      obtain ⟨s90z, a90z, n90z, c90z, b90z, h90z⟩ := S.at 5 (w.heap.size + 1) 2 (IsI K hi.num) rfl; have L90za : World.cell? W6 ⟨w.heap.size + 1, 4, none⟩ = some (.bool s90z) := b90z.c0; have L90zb : World.cell? W6 ⟨w.heap.size + 1, 5, none⟩ = some (.slice a90z n90z c90z) := b90z.c1
      obtain ⟨s90t, a90t, n90t, c90t, b90t, h90t⟩ := S.at 4 (w.heap.size + 1) 3 (IsI K ((hi.den : Int))) rfl; have L90ta : World.cell? W6 ⟨w.heap.size + 1, 6, none⟩ = some (.bool s90t) := b90t.c0; have L90tb : World.cell? W6 ⟨w.heap.size + 1, 7, none⟩ = some (.slice a90t n90t c90t) := b90t.c1
      exact bodyPost_ret (v := .agg #[.bool s90x, .slice a90x n90x c90x, .bool s90y, .slice a90y n90y c90y, .bool s90z, .slice a90z n90z c90z, .bool s90t, .slice a90t n90t c90t]) (by simp [results, Tryz.results109, go_sem, L90xa, L90xb, L90ya, L90yb, L90za, L90zb, L90ta, L90tb]) rfl (⟨_, rfl, S.ext, HM2.out ▸ HM.out ▸ ⟨_, _, _, _, _, _, _, _, _, _, _, _, _, _, _, _, rfl, h90x, h90y, h90z, h90t⟩⟩)
    · skip
      obtain ⟨xx, hxx⟩ : ∃ x, qs[i]? = some x := ⟨_, List.getElem?_eq_getElem (by have := HLEN.out; omega)⟩
      have HX := hid (HL.out i xx hxx)
      have htk : qs.take (i + 1) = qs.take i ++ [xx] := by rw [List.take_add_one, hxx]; rfl
      obtain ⟨cl, hcc⟩ : ∃ c, cmpQ xx lo = c := ⟨_, rfl⟩
      obtain ⟨cg, hcd⟩ : ∃ c, cmpQ xx hi = c := ⟨_, rfl⟩
      by_cases hlt : xx < lo
      · have hsl : leastR q0 (qs.take (i + 1)) = xx := by rw [htk, leastR_snoc, hlo, if_pos hlt]
        have hcl : cmpQ xx lo = cl ∧ decide (cl < 0) = true := ⟨hcc, by rw [← hcc, cmpQ_lt hlt]; rfl⟩
        by_cases hgt : hi < xx
        · have hsg : greatR q0 (qs.take (i + 1)) = xx := by rw [htk, greatR_snoc, hhi, if_pos hgt]
          have hcg : cmpQ xx hi = cg ∧ decide (0 < cg) = true := ⟨hcd, by rw [← hcd, cmpQ_gt hgt]; rfl⟩
          clear hcc hcd hlt hgt htk hxx
          have HLT := hid (show (i : Int) < ((n : Nat) : Int) by omega)
          have HIN := hid (show i < n by omega)
          have HSL := hid hsl; have HSG := hid hsg; have HCL := hid hcl; have HCG := hid hcg; have HHN := hid hn; have HHG := hid hg
          have HADD := hid (show IntKind.i64.wrap ((i : Int) + 1) = (i : Int) + 1 by have := HBIG.out; simp only [IntKind.wrap_i64]; omega)
          clear hlo hhi hn hg hsl hsg hcl hcg
          go_upto_region 3 with (fail)
          refine rgs 1 [some 13] [IsV (.bool true)] [] ?_ ?_
          · refine Rc (bn (r := .bool true) (Od.lit (x := .int .i64 ((i : Nat) : Int)) 12) (Od.lit (x := .int .i64 ((n : Nat) : Int)) 11) (hr := fun w => by have hx9 := HLT.out; go_simp)) ?_
            exact RgAll.nil
          intro v W7 e1 hΦ _
          replace S := S.mono e1
          have v0 : v 0 = .bool true := hΦ 0 (by decide)
          simp only [layL, Act.put, List.setIfInBounds_toArray, List.set_cons_zero, List.set_cons_succ]
          rw [v0]
          clear v0 hΦ e1
          refine wpList_nil ?_
          go_upto_region 4 with (fail)
          have hl := hid S.lt; have hw := S.ext.size
          refine rgs 3 [some 14, some 15, some 7] [IsV (.pointer (some ⟨gl, 2 * (2 * i), none⟩)), IsQ (IsI K xx.num) (IsI K ((xx.den : Int))), IsBo W7 2] [2] ?_ ?_
          · refine Rc (ix (ix_RatN gl n n i HIN.out) (Od.lit 10) (Od.lit 12)) ?_
            refine Rc (ldX (HX.out _ S.ext) (Od.lc 0 14) ld_Rat) ?_
            refine Rc (al al_Rat) ?_
            exact RgAll.nil
          intro v W8 e1 hΦ _
          replace S := S.mono e1
          have h15 := hΦ 1 (by decide)
          obtain ⟨g7, v2, q4, b3, _⟩ := (hΦ 2 (by decide) : IsBo W7 2 (v 2) W8)
          replace S := S.addN 2 (ApartO.old hl.out q4) (Nat.le_trans hw q4) b3
          simp only [newF, List.cons_append, List.nil_append] at S
          simp only [layL, Act.put, List.setIfInBounds_toArray, List.set_cons_zero, List.set_cons_succ, Nat.reduceAdd]
          rw [v2]
          clear b3 hl hw v2 hΦ e1
          try simp only [List.drop_succ_cons, List.drop_zero]
          (with_reducible refine stL ?_ (by rfl)); intro KK hKK; refine stQ S 1 0 (g7) 0 h15 (IsI.gstb _ _) (IsI.gstb _ _) st_Rat (fun W9 S2 G2 => hKK _ _ ?_) rfl rfl
          replace S := S2; clear S2 G2 hKK KK h15
          simp only [List.set_cons_zero, List.set_cons_succ] at S
          refine wpList_nil ?_
          go_upto_region 5 with (fail)
          refine rgs 5 [some 16, some 17, some 18, some 19, some 20] [IsQ (IsI K xx.num) (IsI K ((xx.den : Int))), IsV (.pointer (some ⟨g5, 0, none⟩)), IsQ (IsI K lo.num) (IsI K ((lo.den : Int))), IsV (.int .i64 cl), IsV (.bool true)] [] ?_ ?_
          · refine Rc (ldQ S 1 0 (g7) 0 (Od.lit 7) ld_Rat rfl rfl) ?_
            refine Rc (fa (fa_Iv0 (g5) 0) (Od.lit 5)) ?_
            refine Rc (ldQ S 5 4 (g5) 0 (Od.lc 1 17) ld_Rat rfl rfl) ?_
            refine Rc (cl2 (en Tryz.func21) (Od.lc (Φ := IsQ (IsI K xx.num) (IsI K ((xx.den : Int)))) 0 16) (Od.lc (Φ := IsQ (IsI K lo.num) (IsI K ((lo.den : Int)))) 2 18) (fun x0 x1 w' hE d0 d1 => Calls.mono (qCmp_f d0 d1 (by have := HK.out; omega) (by have := HK.out; omega)) fun _ _ h => h.int HCL.out.1)) ?_
            refine Rc (bn (r := .bool true) (Od.loc 3 19) Od.con (hr := fun w => by have hx9 := HCL.out.2; go_simp)) ?_
            exact RgAll.nil
          intro v W10 e1 hΦ _
          replace S := S.mono e1
          have v4 : v 4 = .bool true := hΦ 4 (by decide)
          simp only [layL, Act.put, List.setIfInBounds_toArray, List.set_cons_zero, List.set_cons_succ, Nat.reduceAdd]
          rw [v4]
          clear v4 hΦ e1
          refine wpList_nil ?_
          go_upto_region 6 with (fail)
          refine rgs 2 [some 21, some 22] [IsQ (IsI K xx.num) (IsI K ((xx.den : Int))), IsV (.pointer (some ⟨g5, 0, none⟩))] [] ?_ ?_
          · refine Rc (ldQ S 1 0 (g7) 0 (Od.lit 7) ld_Rat rfl rfl) ?_
            refine Rc (fa (fa_Iv0 (g5) 0) (Od.lit 5)) ?_
            exact RgAll.nil
          intro v W11 e1 hΦ _
          replace S := S.mono e1
          have h21 := hΦ 0 (by decide)
          have v1 : v 1 = .pointer (some ⟨g5, 0, none⟩) := hΦ 1 (by decide)
          simp only [layL, Act.put, List.setIfInBounds_toArray, List.set_cons_zero, List.set_cons_succ, Nat.reduceAdd]
          rw [v1]
          clear v1 hΦ e1
          try simp only [List.drop_succ_cons, List.drop_zero]
          (with_reducible refine stL ?_ (by rfl)); intro KK hKK; refine stQ S 5 4 (g5) 0 h21 (IsI.gstb _ _) (IsI.gstb _ _) st_Rat (fun W12 S2 G2 => hKK _ _ ?_) rfl rfl
          replace S := S2; clear S2 G2 hKK KK h21
          simp only [List.set_cons_zero, List.set_cons_succ] at S
          refine wpList_nil ?_
          go_upto_region 7 with (fail)
          refine rgs 5 [some 23, some 24, some 25, some 26, some 27] [IsQ (IsI K xx.num) (IsI K ((xx.den : Int))), IsV (.pointer (some ⟨g5, 4, none⟩)), IsQ (IsI K hi.num) (IsI K ((hi.den : Int))), IsV (.int .i64 cg), IsV (.bool true)] [] ?_ ?_
          · refine Rc (ldQ S 1 0 (g7) 0 (Od.lit 7) ld_Rat rfl rfl) ?_
            refine Rc (fa (fa_Iv1 (g5) 0) (Od.lit 5)) ?_
            refine Rc (ldQ S 3 2 (g5) 2 (Od.lc 1 24) ld_Rat rfl rfl) ?_
            refine Rc (cl2 (en Tryz.func21) (Od.lc (Φ := IsQ (IsI K xx.num) (IsI K ((xx.den : Int)))) 0 23) (Od.lc (Φ := IsQ (IsI K hi.num) (IsI K ((hi.den : Int)))) 2 25) (fun x0 x1 w' hE d0 d1 => Calls.mono (qCmp_f d0 d1 (by have := HK.out; omega) (by have := HK.out; omega)) fun _ _ h => h.int HCG.out.1)) ?_
            refine Rc (bn (r := .bool true) (Od.loc 3 26) Od.con (hr := fun w => by have hx9 := HCG.out.2; go_simp)) ?_
            exact RgAll.nil
          intro v W13 e1 hΦ _
          replace S := S.mono e1
          have v4 : v 4 = .bool true := hΦ 4 (by decide)
          simp only [layL, Act.put, List.setIfInBounds_toArray, List.set_cons_zero, List.set_cons_succ, Nat.reduceAdd]
          rw [v4]
          clear v4 hΦ e1
          refine wpList_nil ?_
          go_upto_region 8 with (fail)
          refine rgs 2 [some 28, some 29] [IsQ (IsI K xx.num) (IsI K ((xx.den : Int))), IsV (.pointer (some ⟨g5, 4, none⟩))] [] ?_ ?_
          · refine Rc (ldQ S 1 0 (g7) 0 (Od.lit 7) ld_Rat rfl rfl) ?_
            refine Rc (fa (fa_Iv1 (g5) 0) (Od.lit 5)) ?_
            exact RgAll.nil
          intro v W14 e1 hΦ _
          replace S := S.mono e1
          have h28 := hΦ 0 (by decide)
          have v1 : v 1 = .pointer (some ⟨g5, 4, none⟩) := hΦ 1 (by decide)
          simp only [layL, Act.put, List.setIfInBounds_toArray, List.set_cons_zero, List.set_cons_succ, Nat.reduceAdd]
          rw [v1]
          clear v1 hΦ e1
          try simp only [List.drop_succ_cons, List.drop_zero]
          (with_reducible refine stL ?_ (by rfl)); intro KK hKK; refine stQ S 3 2 (g5) 2 h28 (IsI.gstb _ _) (IsI.gstb _ _) st_Rat (fun W15 S2 G2 => hKK _ _ ?_) rfl rfl
          replace S := S2; clear S2 G2 hKK KK h28
          simp only [List.set_cons_zero, List.set_cons_succ] at S
          refine wpList_nil ?_
          go_upto_region 9 with (fail)
          have hx9 := HADD.out
          have S' := hid (S.drop 2); clear S
          go_wp2_with fail
          go_roundg (gk - 1)
          case measure => have := HHG.out; omega
          case rel => exact ⟨i + 1, by rw [Int.natCast_add]; rfl, by have := HHN.out; have := HHG.out; omega, by rw [HSL.out, HSG.out]; exact S'⟩
        · have hsg : greatR q0 (qs.take (i + 1)) = hi := by rw [htk, greatR_snoc, hhi, if_neg hgt]
          have hcg : cmpQ xx hi = cg ∧ decide (0 < cg) = false := ⟨hcd, by rw [← hcd]; exact cmpQ_ngt hgt⟩
          clear hcc hcd hlt hgt htk hxx
          have HLT := hid (show (i : Int) < ((n : Nat) : Int) by omega)
          have HIN := hid (show i < n by omega)
          have HSL := hid hsl; have HSG := hid hsg; have HCL := hid hcl; have HCG := hid hcg; have HHN := hid hn; have HHG := hid hg
          have HADD := hid (show IntKind.i64.wrap ((i : Int) + 1) = (i : Int) + 1 by have := HBIG.out; simp only [IntKind.wrap_i64]; omega)
          clear hlo hhi hn hg hsl hsg hcl hcg
          go_upto_region 3 with (fail)
          refine rgs 1 [some 13] [IsV (.bool true)] [] ?_ ?_
          · refine Rc (bn (r := .bool true) (Od.lit (x := .int .i64 ((i : Nat) : Int)) 12) (Od.lit (x := .int .i64 ((n : Nat) : Int)) 11) (hr := fun w => by have hx9 := HLT.out; go_simp)) ?_
            exact RgAll.nil
          intro v W16 e1 hΦ _
          replace S := S.mono e1
          have v0 : v 0 = .bool true := hΦ 0 (by decide)
          simp only [layL, Act.put, List.setIfInBounds_toArray, List.set_cons_zero, List.set_cons_succ]
          rw [v0]
          clear v0 hΦ e1
          refine wpList_nil ?_
          go_upto_region 4 with (fail)
          have hl := hid S.lt; have hw := S.ext.size
          refine rgs 3 [some 14, some 15, some 7] [IsV (.pointer (some ⟨gl, 2 * (2 * i), none⟩)), IsQ (IsI K xx.num) (IsI K ((xx.den : Int))), IsBo W16 2] [2] ?_ ?_
          · refine Rc (ix (ix_RatN gl n n i HIN.out) (Od.lit 10) (Od.lit 12)) ?_
            refine Rc (ldX (HX.out _ S.ext) (Od.lc 0 14) ld_Rat) ?_
            refine Rc (al al_Rat) ?_
            exact RgAll.nil
          intro v W17 e1 hΦ _
          replace S := S.mono e1
          have h15 := hΦ 1 (by decide)
          obtain ⟨g7, v2, q6, b5, _⟩ := (hΦ 2 (by decide) : IsBo W16 2 (v 2) W17)
          replace S := S.addN 2 (ApartO.old hl.out q6) (Nat.le_trans hw q6) b5
          simp only [newF, List.cons_append, List.nil_append] at S
          simp only [layL, Act.put, List.setIfInBounds_toArray, List.set_cons_zero, List.set_cons_succ, Nat.reduceAdd]
          rw [v2]
          clear b5 hl hw v2 hΦ e1
          try simp only [List.drop_succ_cons, List.drop_zero]
          (with_reducible refine stL ?_ (by rfl)); intro KK hKK; refine stQ S 1 0 (g7) 0 h15 (IsI.gstb _ _) (IsI.gstb _ _) st_Rat (fun W18 S2 G2 => hKK _ _ ?_) rfl rfl
          replace S := S2; clear S2 G2 hKK KK h15
          simp only [List.set_cons_zero, List.set_cons_succ] at S
          refine wpList_nil ?_
          go_upto_region 5 with (fail)
          refine rgs 5 [some 16, some 17, some 18, some 19, some 20] [IsQ (IsI K xx.num) (IsI K ((xx.den : Int))), IsV (.pointer (some ⟨g5, 0, none⟩)), IsQ (IsI K lo.num) (IsI K ((lo.den : Int))), IsV (.int .i64 cl), IsV (.bool true)] [] ?_ ?_
          · refine Rc (ldQ S 1 0 (g7) 0 (Od.lit 7) ld_Rat rfl rfl) ?_
            refine Rc (fa (fa_Iv0 (g5) 0) (Od.lit 5)) ?_
            refine Rc (ldQ S 5 4 (g5) 0 (Od.lc 1 17) ld_Rat rfl rfl) ?_
            refine Rc (cl2 (en Tryz.func21) (Od.lc (Φ := IsQ (IsI K xx.num) (IsI K ((xx.den : Int)))) 0 16) (Od.lc (Φ := IsQ (IsI K lo.num) (IsI K ((lo.den : Int)))) 2 18) (fun x0 x1 w' hE d0 d1 => Calls.mono (qCmp_f d0 d1 (by have := HK.out; omega) (by have := HK.out; omega)) fun _ _ h => h.int HCL.out.1)) ?_
            refine Rc (bn (r := .bool true) (Od.loc 3 19) Od.con (hr := fun w => by have hx9 := HCL.out.2; go_simp)) ?_
            exact RgAll.nil
          intro v W19 e1 hΦ _
          replace S := S.mono e1
          have v4 : v 4 = .bool true := hΦ 4 (by decide)
          simp only [layL, Act.put, List.setIfInBounds_toArray, List.set_cons_zero, List.set_cons_succ, Nat.reduceAdd]
          rw [v4]
          clear v4 hΦ e1
          refine wpList_nil ?_
          go_upto_region 6 with (fail)
          refine rgs 2 [some 21, some 22] [IsQ (IsI K xx.num) (IsI K ((xx.den : Int))), IsV (.pointer (some ⟨g5, 0, none⟩))] [] ?_ ?_
          · refine Rc (ldQ S 1 0 (g7) 0 (Od.lit 7) ld_Rat rfl rfl) ?_
            refine Rc (fa (fa_Iv0 (g5) 0) (Od.lit 5)) ?_
            exact RgAll.nil
          intro v W20 e1 hΦ _
          replace S := S.mono e1
          have h21 := hΦ 0 (by decide)
          have v1 : v 1 = .pointer (some ⟨g5, 0, none⟩) := hΦ 1 (by decide)
          simp only [layL, Act.put, List.setIfInBounds_toArray, List.set_cons_zero, List.set_cons_succ, Nat.reduceAdd]
          rw [v1]
          clear v1 hΦ e1
          try simp only [List.drop_succ_cons, List.drop_zero]
          (with_reducible refine stL ?_ (by rfl)); intro KK hKK; refine stQ S 5 4 (g5) 0 h21 (IsI.gstb _ _) (IsI.gstb _ _) st_Rat (fun W21 S2 G2 => hKK _ _ ?_) rfl rfl
          replace S := S2; clear S2 G2 hKK KK h21
          simp only [List.set_cons_zero, List.set_cons_succ] at S
          refine wpList_nil ?_
          go_upto_region 7 with (fail)
          refine rgs 5 [some 23, some 24, some 25, some 26, some 27] [IsQ (IsI K xx.num) (IsI K ((xx.den : Int))), IsV (.pointer (some ⟨g5, 4, none⟩)), IsQ (IsI K hi.num) (IsI K ((hi.den : Int))), IsV (.int .i64 cg), IsV (.bool false)] [] ?_ ?_
          · refine Rc (ldQ S 1 0 (g7) 0 (Od.lit 7) ld_Rat rfl rfl) ?_
            refine Rc (fa (fa_Iv1 (g5) 0) (Od.lit 5)) ?_
            refine Rc (ldQ S 3 2 (g5) 2 (Od.lc 1 24) ld_Rat rfl rfl) ?_
            refine Rc (cl2 (en Tryz.func21) (Od.lc (Φ := IsQ (IsI K xx.num) (IsI K ((xx.den : Int)))) 0 23) (Od.lc (Φ := IsQ (IsI K hi.num) (IsI K ((hi.den : Int)))) 2 25) (fun x0 x1 w' hE d0 d1 => Calls.mono (qCmp_f d0 d1 (by have := HK.out; omega) (by have := HK.out; omega)) fun _ _ h => h.int HCG.out.1)) ?_
            refine Rc (bn (r := .bool false) (Od.loc 3 26) Od.con (hr := fun w => by have hx9 := HCG.out.2; go_simp)) ?_
            exact RgAll.nil
          intro v W22 e1 hΦ _
          replace S := S.mono e1
          have v4 : v 4 = .bool false := hΦ 4 (by decide)
          simp only [layL, Act.put, List.setIfInBounds_toArray, List.set_cons_zero, List.set_cons_succ, Nat.reduceAdd]
          rw [v4]
          clear v4 hΦ e1
          refine wpList_nil ?_
          go_upto_region 9 with (fail)
          have hx9 := HADD.out
          have S' := hid (S.drop 2); clear S
          go_wp2_with fail
          go_roundg (gk - 1)
          case measure => have := HHG.out; omega
          case rel => exact ⟨i + 1, by rw [Int.natCast_add]; rfl, by have := HHN.out; have := HHG.out; omega, by rw [HSL.out, HSG.out]; exact S'⟩
      · have hsl : leastR q0 (qs.take (i + 1)) = lo := by rw [htk, leastR_snoc, hlo, if_neg hlt]
        have hcl : cmpQ xx lo = cl ∧ decide (cl < 0) = false := ⟨hcc, by rw [← hcc]; exact cmpQ_nlt hlt⟩
        by_cases hgt : hi < xx
        · have hsg : greatR q0 (qs.take (i + 1)) = xx := by rw [htk, greatR_snoc, hhi, if_pos hgt]
          have hcg : cmpQ xx hi = cg ∧ decide (0 < cg) = true := ⟨hcd, by rw [← hcd, cmpQ_gt hgt]; rfl⟩
          clear hcc hcd hlt hgt htk hxx
          have HLT := hid (show (i : Int) < ((n : Nat) : Int) by omega)
          have HIN := hid (show i < n by omega)
          have HSL := hid hsl; have HSG := hid hsg; have HCL := hid hcl; have HCG := hid hcg; have HHN := hid hn; have HHG := hid hg
          have HADD := hid (show IntKind.i64.wrap ((i : Int) + 1) = (i : Int) + 1 by have := HBIG.out; simp only [IntKind.wrap_i64]; omega)
          clear hlo hhi hn hg hsl hsg hcl hcg
          go_upto_region 3 with (fail)
          refine rgs 1 [some 13] [IsV (.bool true)] [] ?_ ?_
          · refine Rc (bn (r := .bool true) (Od.lit (x := .int .i64 ((i : Nat) : Int)) 12) (Od.lit (x := .int .i64 ((n : Nat) : Int)) 11) (hr := fun w => by have hx9 := HLT.out; go_simp)) ?_
            exact RgAll.nil
          intro v W23 e1 hΦ _
          replace S := S.mono e1
          have v0 : v 0 = .bool true := hΦ 0 (by decide)
          simp only [layL, Act.put, List.setIfInBounds_toArray, List.set_cons_zero, List.set_cons_succ]
          rw [v0]
          clear v0 hΦ e1
          refine wpList_nil ?_
          go_upto_region 4 with (fail)
          have hl := hid S.lt; have hw := S.ext.size
          refine rgs 3 [some 14, some 15, some 7] [IsV (.pointer (some ⟨gl, 2 * (2 * i), none⟩)), IsQ (IsI K xx.num) (IsI K ((xx.den : Int))), IsBo W23 2] [2] ?_ ?_
          · refine Rc (ix (ix_RatN gl n n i HIN.out) (Od.lit 10) (Od.lit 12)) ?_
            refine Rc (ldX (HX.out _ S.ext) (Od.lc 0 14) ld_Rat) ?_
            refine Rc (al al_Rat) ?_
            exact RgAll.nil
          intro v W24 e1 hΦ _
          replace S := S.mono e1
          have h15 := hΦ 1 (by decide)
          obtain ⟨g7, v2, q8, b7, _⟩ := (hΦ 2 (by decide) : IsBo W23 2 (v 2) W24)
          replace S := S.addN 2 (ApartO.old hl.out q8) (Nat.le_trans hw q8) b7
          simp only [newF, List.cons_append, List.nil_append] at S
          simp only [layL, Act.put, List.setIfInBounds_toArray, List.set_cons_zero, List.set_cons_succ, Nat.reduceAdd]
          rw [v2]
          clear b7 hl hw v2 hΦ e1
          try simp only [List.drop_succ_cons, List.drop_zero]
          (with_reducible refine stL ?_ (by rfl)); intro KK hKK; refine stQ S 1 0 (g7) 0 h15 (IsI.gstb _ _) (IsI.gstb _ _) st_Rat (fun W25 S2 G2 => hKK _ _ ?_) rfl rfl
          replace S := S2; clear S2 G2 hKK KK h15
          simp only [List.set_cons_zero, List.set_cons_succ] at S
          refine wpList_nil ?_
          go_upto_region 5 with (fail)
          refine rgs 5 [some 16, some 17, some 18, some 19, some 20] [IsQ (IsI K xx.num) (IsI K ((xx.den : Int))), IsV (.pointer (some ⟨g5, 0, none⟩)), IsQ (IsI K lo.num) (IsI K ((lo.den : Int))), IsV (.int .i64 cl), IsV (.bool false)] [] ?_ ?_
          · refine Rc (ldQ S 1 0 (g7) 0 (Od.lit 7) ld_Rat rfl rfl) ?_
            refine Rc (fa (fa_Iv0 (g5) 0) (Od.lit 5)) ?_
            refine Rc (ldQ S 5 4 (g5) 0 (Od.lc 1 17) ld_Rat rfl rfl) ?_
            refine Rc (cl2 (en Tryz.func21) (Od.lc (Φ := IsQ (IsI K xx.num) (IsI K ((xx.den : Int)))) 0 16) (Od.lc (Φ := IsQ (IsI K lo.num) (IsI K ((lo.den : Int)))) 2 18) (fun x0 x1 w' hE d0 d1 => Calls.mono (qCmp_f d0 d1 (by have := HK.out; omega) (by have := HK.out; omega)) fun _ _ h => h.int HCL.out.1)) ?_
            refine Rc (bn (r := .bool false) (Od.loc 3 19) Od.con (hr := fun w => by have hx9 := HCL.out.2; go_simp)) ?_
            exact RgAll.nil
          intro v W26 e1 hΦ _
          replace S := S.mono e1
          have v4 : v 4 = .bool false := hΦ 4 (by decide)
          simp only [layL, Act.put, List.setIfInBounds_toArray, List.set_cons_zero, List.set_cons_succ, Nat.reduceAdd]
          rw [v4]
          clear v4 hΦ e1
          refine wpList_nil ?_
          go_upto_region 7 with (fail)
          refine rgs 5 [some 23, some 24, some 25, some 26, some 27] [IsQ (IsI K xx.num) (IsI K ((xx.den : Int))), IsV (.pointer (some ⟨g5, 4, none⟩)), IsQ (IsI K hi.num) (IsI K ((hi.den : Int))), IsV (.int .i64 cg), IsV (.bool true)] [] ?_ ?_
          · refine Rc (ldQ S 1 0 (g7) 0 (Od.lit 7) ld_Rat rfl rfl) ?_
            refine Rc (fa (fa_Iv1 (g5) 0) (Od.lit 5)) ?_
            refine Rc (ldQ S 3 2 (g5) 2 (Od.lc 1 24) ld_Rat rfl rfl) ?_
            refine Rc (cl2 (en Tryz.func21) (Od.lc (Φ := IsQ (IsI K xx.num) (IsI K ((xx.den : Int)))) 0 23) (Od.lc (Φ := IsQ (IsI K hi.num) (IsI K ((hi.den : Int)))) 2 25) (fun x0 x1 w' hE d0 d1 => Calls.mono (qCmp_f d0 d1 (by have := HK.out; omega) (by have := HK.out; omega)) fun _ _ h => h.int HCG.out.1)) ?_
            refine Rc (bn (r := .bool true) (Od.loc 3 26) Od.con (hr := fun w => by have hx9 := HCG.out.2; go_simp)) ?_
            exact RgAll.nil
          intro v W27 e1 hΦ _
          replace S := S.mono e1
          have v4 : v 4 = .bool true := hΦ 4 (by decide)
          simp only [layL, Act.put, List.setIfInBounds_toArray, List.set_cons_zero, List.set_cons_succ, Nat.reduceAdd]
          rw [v4]
          clear v4 hΦ e1
          refine wpList_nil ?_
          go_upto_region 8 with (fail)
          refine rgs 2 [some 28, some 29] [IsQ (IsI K xx.num) (IsI K ((xx.den : Int))), IsV (.pointer (some ⟨g5, 4, none⟩))] [] ?_ ?_
          · refine Rc (ldQ S 1 0 (g7) 0 (Od.lit 7) ld_Rat rfl rfl) ?_
            refine Rc (fa (fa_Iv1 (g5) 0) (Od.lit 5)) ?_
            exact RgAll.nil
          intro v W28 e1 hΦ _
          replace S := S.mono e1
          have h28 := hΦ 0 (by decide)
          have v1 : v 1 = .pointer (some ⟨g5, 4, none⟩) := hΦ 1 (by decide)
          simp only [layL, Act.put, List.setIfInBounds_toArray, List.set_cons_zero, List.set_cons_succ, Nat.reduceAdd]
          rw [v1]
          clear v1 hΦ e1
          try simp only [List.drop_succ_cons, List.drop_zero]
          (with_reducible refine stL ?_ (by rfl)); intro KK hKK; refine stQ S 3 2 (g5) 2 h28 (IsI.gstb _ _) (IsI.gstb _ _) st_Rat (fun W29 S2 G2 => hKK _ _ ?_) rfl rfl
          replace S := S2; clear S2 G2 hKK KK h28
          simp only [List.set_cons_zero, List.set_cons_succ] at S
          refine wpList_nil ?_
          go_upto_region 9 with (fail)
          have hx9 := HADD.out
          have S' := hid (S.drop 2); clear S
          go_wp2_with fail
          go_roundg (gk - 1)
          case measure => have := HHG.out; omega
          case rel => exact ⟨i + 1, by rw [Int.natCast_add]; rfl, by have := HHN.out; have := HHG.out; omega, by rw [HSL.out, HSG.out]; exact S'⟩
        · have hsg : greatR q0 (qs.take (i + 1)) = hi := by rw [htk, greatR_snoc, hhi, if_neg hgt]
          have hcg : cmpQ xx hi = cg ∧ decide (0 < cg) = false := ⟨hcd, by rw [← hcd]; exact cmpQ_ngt hgt⟩
          clear hcc hcd hlt hgt htk hxx
          have HLT := hid (show (i : Int) < ((n : Nat) : Int) by omega)
          have HIN := hid (show i < n by omega)
          have HSL := hid hsl; have HSG := hid hsg; have HCL := hid hcl; have HCG := hid hcg; have HHN := hid hn; have HHG := hid hg
          have HADD := hid (show IntKind.i64.wrap ((i : Int) + 1) = (i : Int) + 1 by have := HBIG.out; simp only [IntKind.wrap_i64]; omega)
          clear hlo hhi hn hg hsl hsg hcl hcg
          go_upto_region 3 with (fail)
          refine rgs 1 [some 13] [IsV (.bool true)] [] ?_ ?_
          · refine Rc (bn (r := .bool true) (Od.lit (x := .int .i64 ((i : Nat) : Int)) 12) (Od.lit (x := .int .i64 ((n : Nat) : Int)) 11) (hr := fun w => by have hx9 := HLT.out; go_simp)) ?_
            exact RgAll.nil
          intro v W30 e1 hΦ _
          replace S := S.mono e1
          have v0 : v 0 = .bool true := hΦ 0 (by decide)
          simp only [layL, Act.put, List.setIfInBounds_toArray, List.set_cons_zero, List.set_cons_succ]
          rw [v0]
          clear v0 hΦ e1
          refine wpList_nil ?_
          go_upto_region 4 with (fail)
          have hl := hid S.lt; have hw := S.ext.size
          refine rgs 3 [some 14, some 15, some 7] [IsV (.pointer (some ⟨gl, 2 * (2 * i), none⟩)), IsQ (IsI K xx.num) (IsI K ((xx.den : Int))), IsBo W30 2] [2] ?_ ?_
          · refine Rc (ix (ix_RatN gl n n i HIN.out) (Od.lit 10) (Od.lit 12)) ?_
            refine Rc (ldX (HX.out _ S.ext) (Od.lc 0 14) ld_Rat) ?_
            refine Rc (al al_Rat) ?_
            exact RgAll.nil
          intro v W31 e1 hΦ _
          replace S := S.mono e1
          have h15 := hΦ 1 (by decide)
          obtain ⟨g7, v2, q10, b9, _⟩ := (hΦ 2 (by decide) : IsBo W30 2 (v 2) W31)
          replace S := S.addN 2 (ApartO.old hl.out q10) (Nat.le_trans hw q10) b9
          simp only [newF, List.cons_append, List.nil_append] at S
          simp only [layL, Act.put, List.setIfInBounds_toArray, List.set_cons_zero, List.set_cons_succ, Nat.reduceAdd]
          rw [v2]
          clear b9 hl hw v2 hΦ e1
          try simp only [List.drop_succ_cons, List.drop_zero]
          (with_reducible refine stL ?_ (by rfl)); intro KK hKK; refine stQ S 1 0 (g7) 0 h15 (IsI.gstb _ _) (IsI.gstb _ _) st_Rat (fun W32 S2 G2 => hKK _ _ ?_) rfl rfl
          replace S := S2; clear S2 G2 hKK KK h15
          simp only [List.set_cons_zero, List.set_cons_succ] at S
          refine wpList_nil ?_
          go_upto_region 5 with (fail)
          refine rgs 5 [some 16, some 17, some 18, some 19, some 20] [IsQ (IsI K xx.num) (IsI K ((xx.den : Int))), IsV (.pointer (some ⟨g5, 0, none⟩)), IsQ (IsI K lo.num) (IsI K ((lo.den : Int))), IsV (.int .i64 cl), IsV (.bool false)] [] ?_ ?_
          · refine Rc (ldQ S 1 0 (g7) 0 (Od.lit 7) ld_Rat rfl rfl) ?_
            refine Rc (fa (fa_Iv0 (g5) 0) (Od.lit 5)) ?_
            refine Rc (ldQ S 5 4 (g5) 0 (Od.lc 1 17) ld_Rat rfl rfl) ?_
            refine Rc (cl2 (en Tryz.func21) (Od.lc (Φ := IsQ (IsI K xx.num) (IsI K ((xx.den : Int)))) 0 16) (Od.lc (Φ := IsQ (IsI K lo.num) (IsI K ((lo.den : Int)))) 2 18) (fun x0 x1 w' hE d0 d1 => Calls.mono (qCmp_f d0 d1 (by have := HK.out; omega) (by have := HK.out; omega)) fun _ _ h => h.int HCL.out.1)) ?_
            refine Rc (bn (r := .bool false) (Od.loc 3 19) Od.con (hr := fun w => by have hx9 := HCL.out.2; go_simp)) ?_
            exact RgAll.nil
          intro v W33 e1 hΦ _
          replace S := S.mono e1
          have v4 : v 4 = .bool false := hΦ 4 (by decide)
          simp only [layL, Act.put, List.setIfInBounds_toArray, List.set_cons_zero, List.set_cons_succ, Nat.reduceAdd]
          rw [v4]
          clear v4 hΦ e1
          refine wpList_nil ?_
          go_upto_region 7 with (fail)
          refine rgs 5 [some 23, some 24, some 25, some 26, some 27] [IsQ (IsI K xx.num) (IsI K ((xx.den : Int))), IsV (.pointer (some ⟨g5, 4, none⟩)), IsQ (IsI K hi.num) (IsI K ((hi.den : Int))), IsV (.int .i64 cg), IsV (.bool false)] [] ?_ ?_
          · refine Rc (ldQ S 1 0 (g7) 0 (Od.lit 7) ld_Rat rfl rfl) ?_
            refine Rc (fa (fa_Iv1 (g5) 0) (Od.lit 5)) ?_
            refine Rc (ldQ S 3 2 (g5) 2 (Od.lc 1 24) ld_Rat rfl rfl) ?_
            refine Rc (cl2 (en Tryz.func21) (Od.lc (Φ := IsQ (IsI K xx.num) (IsI K ((xx.den : Int)))) 0 23) (Od.lc (Φ := IsQ (IsI K hi.num) (IsI K ((hi.den : Int)))) 2 25) (fun x0 x1 w' hE d0 d1 => Calls.mono (qCmp_f d0 d1 (by have := HK.out; omega) (by have := HK.out; omega)) fun _ _ h => h.int HCG.out.1)) ?_
            refine Rc (bn (r := .bool false) (Od.loc 3 26) Od.con (hr := fun w => by have hx9 := HCG.out.2; go_simp)) ?_
            exact RgAll.nil
          intro v W34 e1 hΦ _
          replace S := S.mono e1
          have v4 : v 4 = .bool false := hΦ 4 (by decide)
          simp only [layL, Act.put, List.setIfInBounds_toArray, List.set_cons_zero, List.set_cons_succ, Nat.reduceAdd]
          rw [v4]
          clear v4 hΦ e1
          refine wpList_nil ?_
          go_upto_region 9 with (fail)
          have hx9 := HADD.out
          have S' := hid (S.drop 2); clear S
          go_wp2_with fail
          go_roundg (gk - 1)
          case measure => have := HHG.out; omega
          case rel => exact ⟨i + 1, by rw [Int.natCast_add]; rfl, by have := HHN.out; have := HHG.out; omega, by rw [HSL.out, HSG.out]; exact S'⟩
end Go.Proofs.YtcgdkfadcglekaaGreatDoor
