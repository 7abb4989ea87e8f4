/-
  The reference: what is printed (PrintIn). (Printed by wip/gen/nr8.py.)
-/
import Derived.Test.YtenhciieboegbaaGreatDoorNr7
namespace Go.Proofs.YtenhciieboegbaaGreatDoor
open Go Go.RowKit Go.Maps
theorem shL_part (l : List Cl) (j : Nat) : (shL (l.take j)).length ≤ (shL l).length := by
  have h := congrArg List.length (shL_app (l.take j) (l.drop j))
  rw [List.take_append_drop, List.length_append] at h
  omega
set_option maxRecDepth 100000 in
set_option maxHeartbeats 8000000 in
theorem PrintIn_f {l : List Cl} {v : Value} {w : World} (K0 : Nat) (hl : IsCs 0 l v w) (hn : l.length ≤ 1000000) (hK : K0 ≤ 1000000) (hh : ∀ c ∈ l, hgN K0 c.e) : Calls Tryz.prog 15 #[v] w (Ret w (IsTx (prS l) (prE l))) := by
  obtain ⟨W, hW, E⟩ : ∃ W, W = w.alloc (.cells #[.string ⟨#[]⟩, .int .i64 0] 40) ∧ Ext w W := ⟨_, rfl, (Ext.refl w).alloc _⟩
  have B := Bk.new w #[.string ⟨#[]⟩, .int .i64 0] 40
  rw [← hW] at B
  have HB := hid B
  have HE := hid E
  have HRI := hid (Right42_f K0 (hl.ext E) hn hK hh)
  have HL := hid hl
  obtain ⟨ao, cp, rfl, -, -, hP⟩ := id hl
  obtain ⟨n, hn2⟩ : ∃ n, l.length = n := ⟨_, rfl⟩
  have HN := hid (And.intro hn2 hn)
  have HP := hid hP
  rw [hn2] at HRI ⊢
  obtain ⟨rt, hrt⟩ : ∃ r, rtE l = r := ⟨_, rfl⟩
  rw [hrt] at HRI
  have HRT := hid hrt
  have HRI : Hid (Calls Tryz.prog 13 #[.slice ao n cp] W (RVal W (.bool rt))) := HRI
  clear hl hn hK hh hn2 hP hrt B E
  go_enter Tryz.func15, Tryz.ntmps15
  go_upto_region 1 with (fail)
  rw [← hW]
  clear hW
  cases rt with
  | false =>
    have HR := hid (show prS l = [] ∧ prE l = 1 by
      have : prE l = 1 := by rw [prE, HRT.out]; rfl
      rw [prS, this]; exact ⟨rfl, rfl⟩)
    go_upto_region 2 with (go_at_call 13; go_must (refine Calls.mono HRI.out ?_; rintro e w1 ⟨rfl, e1⟩; have e1 := hid e1))
    have B1 := HB.out.ext e1.out
    have c0 := B1.c 0 _ rfl
    have c1 := B1.c 1 _ rfl
    have f0 := B1.f 0
    have f1 := B1.f 1
    have E1 := hid (HE.out.trans e1.out)
    clear B1
    go_wp2_with fail
    refine bodyPost_ret (v := .agg #[.string ⟨#[]⟩, .int .i64 1]) (by simp [results, Tryz.results15, go_sem, c0, c1]) rfl ?_
    exact ⟨_, rfl, (E1.out.set (Nat.le_refl _) _).set (Nat.le_refl _) _, by rw [IsTx, HR.out.1, HR.out.2]; rfl⟩
  | true =>
    have HRA := hid (show (∀ c ∈ l, nameB c.nm = true ∧ szN 20 [] c.e ≠ 0) ∧ n ≤ 40 by
      have h := HRT.out
      rw [rtE, Bool.and_eq_true, decide_eq_true_eq] at h
      exact ⟨rt_all h.1, by have := HN.out.1; omega⟩)
    go_upto_region 4 with (go_at_call 13; go_must (refine Calls.mono HRI.out ?_; rintro e w1 ⟨rfl, e1⟩; have e1 := hid e1))
    have HB1 := hid (HB.out.ext e1.out)
    have HE1 := hid (HE.out.trans e1.out)
    clear HB HE e1 HRI
    go_wp2_with fail
    go_loopg [3, 4] n (fun gk v3 v4 wr => ∃ i : Nat, v4 = .int .i64 ((i : Nat) : Int) ∧ i + gk = n ∧ v3 = encS (shL (l.take i)) ∧ Hid (Ext w1 wr ∧ (shL (l.take i)).length ≤ 20000))
    case atStart => exact ⟨0, rfl, by omega, rfl, hid ⟨Ext.refl _, Nat.zero_le _⟩⟩
    case round =>
      obtain ⟨i, rfl, hg, rfl, S⟩ := hrel
      by_cases hi : i < n
      · have hil : (i : Int) < (n : Int) := by omega
        have HIW := hid (show IntKind.i64.wrap ((i : Int) + 1) = ((i + 1 : Nat) : Int) by have := HN.out; simp only [IntKind.wrap_i64]; omega)
        obtain ⟨y, hy⟩ : ∃ y, l[i]? = some y := ⟨_, List.getElem?_eq_getElem (by rw [HN.out.1]; exact hi)⟩
        obtain ⟨g, o, rfl, -, hcs⟩ := HP.out (fun e => by rw [e] at hy; cases hy)
        obtain ⟨us, hu1, hu2, hu3⟩ := hcs i y hy
        have hAy := HRA.out.1 y (List.mem_of_getElem? hy)
        have HG := hid (And.intro hg hi)
        have HU := hid (show (∀ j u, us[j]? = some u → World.cell? w ⟨g, o + 9 * i + 1 + j, none⟩ = some u) ∧ us.length = 8 ∧ World.cell? w ⟨g, o + 9 * i, none⟩ = some (encS y.nm) from ⟨hu1, hu2.len, hu3⟩)
        have HSN := hid (shL_snoc hy)
        have HSH := hid (fun w' (e : Ext w w') => Shown_f 20 [] y.e us w' (Nat.le_refl _) hAy.2 (hu2.ext e))
        have hl2 := sh_len 20 [] y.e hAy.2
        have hl1 := name_len hAy.1
        have h3 : 100 * 3 ^ 20 = 348678440100 := by decide
        have hSC : shC y = y.nm ++ [32, 61, 32] ++ shN 20 y.e ++ [10] := rfl
        have ES := S.out.2
        obtain ⟨nm, hnm⟩ : ∃ x, y.nm = x := ⟨_, rfl⟩
        obtain ⟨se, hse⟩ : ∃ x, shN 20 y.e = x := ⟨_, rfl⟩
        obtain ⟨S0, hS0⟩ : ∃ x, shL (l.take i) = x := ⟨_, rfl⟩
        rw [hse] at HSH hl2
        rw [hnm] at hl1 HU
        rw [hnm, hse] at hSC
        rw [hSC, hS0] at HSN
        rw [hS0] at ES ⊢
        have HLB := hid (show S0.length ≤ 20000 ∧ nm.length ≤ 12 ∧ se.length ≤ 350000000000 from ⟨ES, hl1, by omega⟩)
        have HSH : Hid (∀ w', Ext w w' → Calls Tryz.prog 38 #[.agg us.toArray] w' (RVal w' (encS se))) := HSH
        have HE2 := hid (HE1.out.trans S.out.1)
        have HB2 := hid (HB1.out.ext S.out.1)
        have HE3 := hid S.out.1
        clear hg hi hy hcs hu1 hu2 hu3 hAy hl1 hl2 h3 hSC ES hnm hse hS0 S
        go_upto_region 7 with (fail)
        refine rg 16 [some 15, some 16, some 17, some 18, some 19, some 20, some 21, some 22, some 23, some 24, some 25, some 26, some 27, some 28, some 29, some 30] [IsV (encS S0), IsV (.slice (some ⟨g, o, none⟩) n cp), IsV (.int .i64 ((i : Nat) : Int)), IsV (.pointer (some ⟨g, o + 9 * i, none⟩)), IsV (.pointer (some ⟨g, o + 9 * i, none⟩)), IsV (encS nm), IsV (encS (S0 ++ nm)), IsV (encS ((S0 ++ nm) ++ [32, 61, 32])), IsV (.slice (some ⟨g, o, none⟩) n cp), IsV (.int .i64 ((i : Nat) : Int)), IsV (.pointer (some ⟨g, o + 9 * i, none⟩)), IsV (.pointer (some ⟨g, o + 9 * i + 1, none⟩)), IsV (.agg us.toArray), IsV (encS se), IsV (encS (((S0 ++ nm) ++ [32, 61, 32]) ++ se)), IsV (encS ((((S0 ++ nm) ++ [32, 61, 32]) ++ se) ++ [10]))] [] 1 ?_ ?_ (hst := by repeat' (first | exact trivial | exact IsV.stb _ | apply And.intro))
        · refine Rc (mv (Od.lit (x := encS S0) 3)) ?_
          refine Rc (mv (Od.lit (x := .slice (some ⟨g, o, none⟩) n cp) 0)) ?_
          refine Rc (mv (Od.lit (x := .int .i64 ((i : Nat) : Int)) 4)) ?_
          refine Rc (ixq (ix_Cl g o cp n i HG.out.2) (Od.lc (Φ := IsV (.slice (some ⟨g, o, none⟩) n cp)) 1 16) (Od.lc (Φ := IsV (.int .i64 ((i : Nat) : Int))) 2 17)) ?_
          refine Rc (fa (fa_Cl0 g (o + 9 * i)) (Od.lc 3 18)) ?_
          refine Rc (lv (Φ := IsV (encS nm)) _ (fun w' e => ld_str _ _ _ ((HE2.out.trans e).cell HU.out.2.2)) (Od.lc 4 19) (fun _ _ => rfl)) ?_
          refine Rc (ct (s := S0) (t := nm) (Od.lc (Φ := IsV (encS S0)) 0 15) (Od.lc (Φ := IsV (encS nm)) 5 20) (by have := HLB.out; omega)) ?_
          refine Rc (ct (s := S0 ++ nm) (t := [32, 61, 32]) (Od.lc (Φ := IsV (encS (S0 ++ nm))) 6 21) Od.con (by simp only [List.length_append, List.length_cons, List.length_nil]; have := HLB.out; omega)) ?_
          refine Rc (mv (Od.lit (x := .slice (some ⟨g, o, none⟩) n cp) 0)) ?_
          refine Rc (mv (Od.lit (x := .int .i64 ((i : Nat) : Int)) 4)) ?_
          refine Rc (ixq (ix_Cl g o cp n i HG.out.2) (Od.lc (Φ := IsV (.slice (some ⟨g, o, none⟩) n cp)) 8 23) (Od.lc (Φ := IsV (.int .i64 ((i : Nat) : Int))) 9 24)) ?_
          refine Rc (fa (fa_Cl1 g (o + 9 * i)) (Od.lc 10 25)) ?_
          refine Rc (lv (Φ := IsV (.agg us.toArray)) _ (fun w' e => ldM (by kernel_rfl) (by kernel_rfl) HU.out.2.1 (fun j v hj => (HE2.out.trans e).cell (HU.out.1 j v hj))) (Od.lc 11 26) (fun _ _ => rfl)) ?_
          refine Rc (cl1 (Φ := IsV (.agg us.toArray)) (Χ := IsV (encS se)) (en Tryz.func38) (Od.lc 12 27) (fun x0 w' hE d0 => by { obtain rfl : x0 = .agg us.toArray := d0; exact Calls.mono (HSH.out w' (HE2.out.trans hE)) (fun e w2 h => ⟨_, h.1, h.2, rfl⟩) })) ?_
          refine Rc (ct (s := (S0 ++ nm) ++ [32, 61, 32]) (t := se) (Od.lc (Φ := IsV (encS ((S0 ++ nm) ++ [32, 61, 32]))) 7 22) (Od.lc (Φ := IsV (encS se)) 13 28) (by simp only [List.length_append, List.length_cons, List.length_nil]; have := HLB.out; omega)) ?_
          refine Rc (ct (s := ((S0 ++ nm) ++ [32, 61, 32]) ++ se) (t := [10]) (Od.lc (Φ := IsV (encS (((S0 ++ nm) ++ [32, 61, 32]) ++ se))) 14 29) Od.con (by simp only [List.length_append, List.length_cons, List.length_nil]; have := HLB.out; omega)) ?_
          exact RgAll.nil
        intro u X4 e4 hΦ _
        have q9 : u 15 = encS (shL (l.take (i + 1))) := by
          have h : u 15 = encS ((((S0 ++ nm) ++ [32, 61, 32]) ++ se) ++ [10]) := hΦ 15 (by decide)
          rw [h, HSN.out]; simp
        simp only [layL, Act.put, List.setIfInBounds_toArray, List.set_cons_zero, List.set_cons_succ, Nat.reduceAdd]
        rw [q9]
        have HE4 := hid (HE3.out.trans e4)
        have HB4 := hid (HB2.out.ext e4)
        clear hΦ q9 e4 HB2 HE2 HE3
        refine asA 16 3 (.tmp 30) (encS (shL (l.take (i + 1)))) rfl ?_
        refine wpAny_done (by kernel_rfl) ?_ _
        simp only [Act.put, List.setIfInBounds_toArray, List.set_cons_zero, List.set_cons_succ]
        obtain ⟨S2, hS2⟩ : ∃ x, shL (l.take (i + 1)) = x := ⟨_, rfl⟩
        obtain ⟨sb, hsb⟩ : ∃ y : ByteArray, (⟨S2.toArray⟩ : ByteArray) = y := ⟨_, rfl⟩
        obtain ⟨m, hm⟩ : ∃ m, S2.length = m := ⟨_, rfl⟩
        have hsz : sb.size = m := by rw [← hsb, ← hm]; rfl
        rw [hS2, encS, hsb]
        have HS2 := hid (And.intro hS2 (And.intro hsb hm))
        clear hS2 hsb hm
        by_cases h2 : 20000 < m
        · have h3 : (20000 : Int) < (m : Int) := by omega
          have HR := hid (show prS l = [] ∧ prE l = 2 by
            have h5 := shL_part l (i + 1)
            rw [HS2.out.1, HS2.out.2.2] at h5
            have : prE l = 2 := by rw [prE, if_pos HRT.out, if_pos (by omega)]
            rw [prS, this]; exact ⟨rfl, rfl⟩)
          have c0 := HB4.out.c 0 _ rfl
          have c1 := HB4.out.c 1 _ rfl
          have f0 := HB4.out.f 0
          have f1 := HB4.out.f 1
          have E1 := hid (HE1.out.trans HE4.out)
          clear h2
          go_wp2_with fail
          refine bodyPost_ret (v := .agg #[.string ⟨#[]⟩, .int .i64 2]) (by simp [results, Tryz.results15, go_sem, c0, c1]) rfl ?_
          exact ⟨_, rfl, (E1.out.set (Nat.le_refl _) _).set (Nat.le_refl _) _, by rw [IsTx, HR.out.1, HR.out.2]; rfl⟩
        · have h3 : ¬ (20000 : Int) < (m : Int) := by omega
          have HM := hid (show m ≤ 20000 by omega)
          have hx9 := HIW.out
          clear h2
          go_wp2_with fail
          go_roundg (gk - 1)
          case measure => have := HG.out; omega
          case rel => exact ⟨i + 1, rfl, by have := HG.out; omega, by rw [HS2.out.1, encS, HS2.out.2.1], hid ⟨HE4.out, by rw [HS2.out.1, HS2.out.2.2]; exact HM.out⟩⟩
      · have hil : ¬ ((i : Int) < (n : Int)) := by omega
        have htk : l.take i = l := List.take_of_length_le (by rw [HN.out.1]; omega)
        have h5 := S.out.2
        rw [htk] at h5 ⊢
        have HR := hid (show prS l = shL l ∧ prE l = 0 by
          have : prE l = 0 := by rw [prE, if_pos HRT.out, if_neg (by omega)]
          rw [prS, if_pos this]; exact ⟨rfl, this⟩)
        obtain ⟨sb, hsb⟩ : ∃ y : ByteArray, (⟨(shL l).toArray⟩ : ByteArray) = y := ⟨_, rfl⟩
        rw [encS, hsb]
        have HSB := hid hsb
        have B4 := HB1.out.ext S.out.1
        have c0 := B4.c 0 _ rfl
        have c1 := B4.c 1 _ rfl
        have f0 := B4.f 0
        have f1 := B4.f 1
        have E1 := hid (HE1.out.trans S.out.1)
        clear htk h5 hsb B4 S hg hi
        go_wp2_with fail
        refine bodyPost_ret (v := .agg #[.string sb, .int .i64 0]) (by simp [results, Tryz.results15, go_sem, c0, c1]) rfl ?_
        exact ⟨_, rfl, (E1.out.set (Nat.le_refl _) _).set (Nat.le_refl _) _, by rw [IsTx, HR.out.1, HR.out.2, encS, HSB.out]⟩
end Go.Proofs.YtenhciieboegbaaGreatDoor
