/-
  The reference: which lists of cells are right, and their texts. (Printed by wip/gen/nr7.py.)
-/
import Derived.Test.YtenhciieboegbaaGreatDoorNr4
import Derived.Test.YtenhciieboegbaaGreatDoorNr6
namespace Go.Proofs.YtenhciieboegbaaGreatDoor
open Go Go.RowKit Go.Maps
theorem RwS.sr {base : Nat} {b : Sc} {v : Value} {w : World} (h : RwS base b v w) (hl : b.length ≤ 1000000000) : IsSr b v w := by
  obtain ⟨ao, cp, h1, h2, h3, h4, h5⟩ := h.1.shape
  refine ⟨ao, cp, h1, by omega, fun hb => ?_⟩
  obtain ⟨g, rfl, k1, k2, k3⟩ := h5 (by simpa using hb)
  exact ⟨g, 0, rfl, fun j x hj => by rw [Nat.zero_add]; exact k3 j _ (by simp [hj])⟩
section
variable {ops : Array Oper} {Q : Exit → Act → World → Prop} {ds : List (Option Tmp)} {a0 : Act} {w0 : World} {L : List (Value → World → Prop)} {boxes : List Nat} {i k : Nat} {o : Oper} {os : List Oper}
theorem bs0G (ho : o.op = .buildSlice 53 0 #[] := by rfl) (hi : L.getD i (fun _ _ => True) = IsSg [] := by kernel_rfl) (hb : boxes.contains i = false := by kernel_rfl) : Ok Tryz.prog ops Q ds a0 w0 L boxes i o :=
  ⟨fun v a w hE hd hf K hK => by
    have hr : (Instr.buildSlice 53 0 #[]).run Tryz.prog w = .ok (.slice (some ⟨w.heap.size, 0, none⟩) 0 0) (w.alloc (.cells #[] 9)) := by go_simp
    have hrun : (execOp a.eval o).run Tryz.prog w = .ok (.value (.slice (some ⟨w.heap.size, 0, none⟩) 0 0)) (w.alloc (.cells #[] 9)) := by
      unfold execOp
      rw [ho]
      dsimp only
      simp [hr]
    unfold Oper.wp
    rw [hrun]
    refine hK.out _ _ ((Ext.refl w).alloc _) ?_ (FreshIf.no hb)
    rw [hi]
    exact ⟨_, 0, rfl, fun j x hj => by simp at hj⟩⟩
theorem bs1G {x : Operand} {s : List UInt8} (hx : Od ops ds a0 w0 L i x (IsV (encS s))) (ho : o.op = .buildSlice 53 1 #[(0, x)] := by rfl) (hi : L.getD i (fun _ _ => True) = IsSg [s] := by kernel_rfl) (hb : boxes.contains i = false := by kernel_rfl) : Ok Tryz.prog ops Q ds a0 w0 L boxes i o :=
  ⟨fun v a w hE hd hf K hK => by
    have e1 : a.eval x = encS s := hx.out v a w hE hd hf
    have hr : (Instr.buildSlice 53 1 #[(0, encS s)]).run Tryz.prog w = .ok (.slice (some ⟨w.heap.size, 0, none⟩) 1 1) (w.alloc (.cells #[encS s] 9)) := by rw [encS]; go_simp
    have hrun : (execOp a.eval o).run Tryz.prog w = .ok (.value (.slice (some ⟨w.heap.size, 0, none⟩) 1 1)) (w.alloc (.cells #[encS s] 9)) := by
      unfold execOp
      rw [ho]
      dsimp only
      simp only [List.map_toArray, List.map_cons, List.map_nil]
      rw [e1]
      simp [hr]
    unfold Oper.wp
    rw [hrun]
    refine hK.out _ _ ((Ext.refl w).alloc _) ?_ (FreshIf.no hb)
    rw [hi]
    refine ⟨_, 1, rfl, fun j x hj => ?_⟩
    cases j with
    | zero => obtain rfl : s = x := by simpa using hj
              exact (Bk.new w #[encS s] 9).c 0 (encS s) rfl
    | succ j => simp at hj⟩
end
section
set_option maxRecDepth 100000
set_option maxHeartbeats 8000000
theorem Right42_f {l : List Cl} {v : Value} {w : World} (K0 : Nat) (hl : IsCs 0 l v w) (hn : l.length ≤ 1000000) (hK : K0 ≤ 1000000) (hh : ∀ c ∈ l, hgN K0 c.e) : Calls Tryz.prog 13 #[v] w (RVal w (.bool (rtE l))) := by
  obtain ⟨ao, cp, rfl, hc1, hc2, hP⟩ := id hl
  obtain ⟨n, hn2⟩ : ∃ n, l.length = n := ⟨_, rfl⟩
  have HL := hid hl
  have HN := hid (And.intro hn2 hn)
  have HH := hid (And.intro hK hh)
  have HP := hid hP
  rw [hn2]
  clear hl hn hK hh hP hc1 hc2 hn2
  by_cases h40 : 40 < n
  · have hle : (40 : Int) < (n : Int) := by omega
    have HR := hid (show rtE l = false by rw [rtE, decide_eq_false (by rw [HN.out.1]; omega)]; simp)
    go_enter Tryz.func13, Tryz.ntmps13
    go_wp2_with fail
    go_ret
    exact ⟨by rw [HR.out] <;> rfl, Ext.refl _⟩
  have hle : ¬ (40 : Int) < (n : Int) := by omega
  have HR := hid (show rtE l = rtL [] l by rw [rtE, decide_eq_true (by rw [HN.out.1]; omega)]; simp)
  have H40 := hid (show n ≤ 40 by omega)
  clear h40
  obtain ⟨W, hW, E0, R0⟩ : ∃ W, W = w.alloc (.cells #[] 9) ∧ Ext w W ∧ RwS w.heap.size [] (.slice (some ⟨w.heap.size, 0, none⟩) 0 0) W := ⟨_, rfl, (Ext.refl _).alloc _, RwS.zero w (Nat.le_refl _)⟩
  have HE0 := hid E0
  have HR0 := hid R0
  clear E0 R0
  go_enter Tryz.func13, Tryz.ntmps13
  go_upto_region 3 with (fail)
  refine wp_region_lit ?_
  refine wpList_step fun K hK => ?_
  go_simp
  refine hK _ _ ?_
  clear hK K
  rw [← hW]
  clear hW
  refine stL (fun K hK => wp_mv (hK _ _ ?_))
  clear hK K
  try go_simp
  refine wpList_nil ?_
  go_wp2_with fail
  clear hle
  go_loopg [3, 4] n (fun gk v3 v4 wr => ∃ i : Nat, v4 = .int .i64 ((i : Nat) : Int) ∧ i + gk = n ∧ Hid (Ext w wr ∧ RwS w.heap.size (nms (l.take i)) v3 wr ∧ rtL [] l = rtL (nms (l.take i)) (l.drop i)))
  case atStart => exact ⟨0, rfl, by omega, hid ⟨HE0.out, HR0.out, rfl⟩⟩
  case round =>
    obtain ⟨i, rfl, hg, S⟩ := hrel
    by_cases hi : i < n
    · have hil : (i : Int) < (n : Int) := by omega
      have hiw : IntKind.i64.wrap ((i : Int) + 1) = ((i + 1 : Nat) : Int) := by have := HN.out; simp only [IntKind.wrap_i64]; omega
      obtain ⟨y, hy⟩ : ∃ y, l[i]? = some y := ⟨_, List.getElem?_eq_getElem (by rw [HN.out.1]; exact hi)⟩
      obtain ⟨g, o, rfl, -, hcs⟩ := HP.out (fun e => by rw [e] at hy; cases hy)
      obtain ⟨us, hu1, hu2, hu3⟩ := hcs i y hy
      have hym := List.mem_of_getElem? hy
      have HIW := hid hiw
      have HG := hid (And.intro hg (And.intro hi hy))
      have HU := hid (show (∀ j u, us[j]? = some u → World.cell? w ⟨g, o + 9 * i + 1 + j, none⟩ = some u) ∧ us.length = 8 ∧ World.cell? w ⟨g, o + 9 * i, none⟩ = some (encS y.nm) from ⟨hu1, hu2.len, hu3⟩)
      have HE := hid S.out.1
      have HRT := hid (S.out.2.2.trans (rt_at hy))
      have HTK := hid (show nms (l.take (i + 1)) = nms (l.take i) ++ [y.nm] by rw [nms, nms, List.take_add_one, hy]; simp)
      have HNL := hid (show (nms (l.take i)).length ≤ 40 by rw [nms, List.length_map, List.length_take]; have := H40.out; omega)
      have HNA := hid (fun w' => Name_f y.nm w')
      have HHS := hid (fun w' (e : Ext wr w') => Has_f (s := y.nm) ((S.out.2.1.ext e).sr (by have := HNL.out; omega)) (by have := HNL.out; omega))
      have HSZ := hid (fun w' (e : Ext w w') => Size_f K0 y.e us w' HH.out.1 (HH.out.2 y hym) (hu2.ext e))
      have HGD := hid (fun w' vv (e : Ext w w') (hs : IsSg [] vv w') => good_f 20 [] y.e us vv w' hs (by decide) (hu2.ext e))
      have HRW := hid S.out.2.1
      have hqb : cntN y.e ≤ 200 * K0 := hg_cnt K0 y.e (HH.out.2 y hym)
      obtain ⟨nm, hnm⟩ : ∃ x, y.nm = x := ⟨_, rfl⟩
      rw [hnm] at HU HRT HTK HNA HHS
      obtain ⟨p1, hp1⟩ : ∃ r, nameB nm = r := ⟨_, rfl⟩
      have Hp1 := hid hp1
      clear hp1
      obtain ⟨np1, hnp1⟩ : ∃ r, (!p1) = r := ⟨_, rfl⟩
      have Hnp1 := hid hnp1
      clear hnp1
      obtain ⟨p2, hp2⟩ : ∃ r, decide (nm ∈ nms (l.take i)) = r := ⟨_, rfl⟩
      have Hp2 := hid hp2
      clear hp2
      obtain ⟨r1, hr1⟩ : ∃ r, (np1 || p2) = r := ⟨_, rfl⟩
      have Hr1 := hid hr1
      clear hr1
      obtain ⟨q, hq⟩ : ∃ r, cntN y.e = r := ⟨_, rfl⟩
      have Hq := hid hq
      clear hq
      obtain ⟨c3, hc3⟩ : ∃ r, decide (200 < q) = r := ⟨_, rfl⟩
      have Hc3 := hid hc3
      clear hc3
      obtain ⟨r2, hr2⟩ : ∃ r, (r1 || c3) = r := ⟨_, rfl⟩
      have Hr2 := hid hr2
      clear hr2
      obtain ⟨gd, hgd⟩ : ∃ r, gdN 20 [] y.e = r := ⟨_, rfl⟩
      have Hgd := hid hgd
      clear hgd
      obtain ⟨ngd, hngd⟩ : ∃ r, (!gd) = r := ⟨_, rfl⟩
      have Hngd := hid hngd
      clear hngd
      obtain ⟨r3, hr3⟩ : ∃ r, (r2 || ngd) = r := ⟨_, rfl⟩
      have Hr3 := hid hr3
      clear hr3
      rw [Hq.out] at hqb HSZ
      rw [Hp1.out] at HNA
      rw [Hp2.out] at HHS
      have HGD : Hid (∀ w' vv, Ext w w' → IsSg [] vv w' → Calls Tryz.prog 36 #[.agg us.toArray, vv, .int .i64 20] w' (RVal w' (.bool gd))) := by
        have h := HGD.out
        rw [Hgd.out] at h
        exact hid h
      have HNA : Hid (∀ w', Calls Tryz.prog 34 #[encS nm] w' (RVal w' (.bool p1))) := HNA
      have HHS : Hid (∀ w', Ext wr w' → Calls Tryz.prog 26 #[u3, encS nm] w' (Ret w' (IsV (.bool p2)))) := HHS
      have HSZ : Hid (∀ w', Ext w w' → Calls Tryz.prog 35 #[.agg us.toArray] w' (RVal w' (.int .i64 ((q : Nat) : Int)))) := HSZ
      have HRT2 := hid (show rtL [] l = (!r3 && rtL (nms (l.take (i + 1))) (l.drop (i + 1))) by
        rw [HRT.out, Hp1.out, Hq.out, Hgd.out, show (nms (l.take i)).contains nm = p2 from by rw [← Hp2.out, Bool.eq_iff_iff]; simp, show decide (q ≤ 200) = !c3 from by rw [← Hc3.out, Bool.eq_iff_iff]; simp, ← Hr3.out, ← Hngd.out, ← Hr2.out, ← Hr1.out, ← Hnp1.out]
        cases p1 <;> cases p2 <;> cases c3 <;> cases gd <;> rfl)
      clear hg hi hy hiw hcs hu1 hu2 hu3 hym hnm hqb HRT S
      go_upto_region 7 with (fail)
      refine rgs 35 [some 15, some 16, some 17, some 18, some 19, some 20, some 21, some 22, some 23, some 24, some 25, some 26, some 27, some 28, some 29, some 30, some 31, some 32, some 33, some 34, some 35, some 36, some 37, some 38, some 39, some 40, some 41, some 42, some 43, some 44, some 45, some 46, some 47, some 48, some 49] [IsV (.slice (some ⟨g, o, none⟩) n cp), IsV (.int .i64 ((i : Nat) : Int)), IsV (.pointer (some ⟨g, o + 9 * i, none⟩)), IsV (.pointer (some ⟨g, o + 9 * i, none⟩)), IsV (encS nm), IsV (.bool p1), IsV (.bool np1), IsV (.bool np1), IsIf (!np1) (IsV (u3)), IsIf (!np1) (IsV (.slice (some ⟨g, o, none⟩) n cp)), IsIf (!np1) (IsV (.int .i64 ((i : Nat) : Int))), IsIf (!np1) (IsV (.pointer (some ⟨g, o + 9 * i, none⟩))), IsIf (!np1) (IsV (.pointer (some ⟨g, o + 9 * i, none⟩))), IsIf (!np1) (IsV (encS nm)), IsIf (!np1) (IsV (.bool p2)), IsV (.bool r1), IsV (.bool r1), IsIf (!r1) (IsV (.slice (some ⟨g, o, none⟩) n cp)), IsIf (!r1) (IsV (.int .i64 ((i : Nat) : Int))), IsIf (!r1) (IsV (.pointer (some ⟨g, o + 9 * i, none⟩))), IsIf (!r1) (IsV (.pointer (some ⟨g, o + 9 * i + 1, none⟩))), IsIf (!r1) (IsV (.agg us.toArray)), IsIf (!r1) (IsV (.int .i64 ((q : Nat) : Int))), IsIf (!r1) (IsV (.bool c3)), IsV (.bool r2), IsV (.bool r2), IsIf (!r2) (IsV (.slice (some ⟨g, o, none⟩) n cp)), IsIf (!r2) (IsV (.int .i64 ((i : Nat) : Int))), IsIf (!r2) (IsV (.pointer (some ⟨g, o + 9 * i, none⟩))), IsIf (!r2) (IsV (.pointer (some ⟨g, o + 9 * i + 1, none⟩))), IsIf (!r2) (IsV (.agg us.toArray)), IsIf (!r2) (IsSg []), IsIf (!r2) (IsV (.bool gd)), IsIf (!r2) (IsV (.bool ngd)), IsV (.bool r3)] [] ?_ ?_ (hst := by repeat' (first | exact trivial | exact IsV.stb _ | exact IsSg.stb _ | apply IsIf.stb | apply And.intro))
      · refine Rc (mv (Od.lit (x := .slice (some ⟨g, o, none⟩) n cp) 0)) ?_
        refine Rc (mv (Od.lit (x := .int .i64 ((i : Nat) : Int)) 4)) ?_
        refine Rc (ixq (ix_Cl g o cp n i HG.out.2.1) (Od.lc (Φ := IsV (.slice (some ⟨g, o, none⟩) n cp)) 0 15) (Od.lc (Φ := IsV (.int .i64 ((i : Nat) : Int))) 1 16)) ?_
        refine Rc (fa (fa_Cl0 g (o + 9 * i)) (Od.lc 2 17)) ?_
        refine Rc (lv (Φ := IsV (encS nm)) _ (fun w' e => ld_str _ _ _ ((HE.out.trans e).cell HU.out.2.2)) (Od.lc 3 18) (fun _ _ => rfl)) ?_
        refine Rc (cl1 (Φ := IsV (encS nm)) (Χ := IsV (.bool p1)) (en Tryz.func34) (Od.lc 4 19) (fun x0 w' hE d0 => by { obtain rfl : x0 = encS nm := d0; exact Calls.mono (HNA.out w') (fun e w2 h => ⟨_, h.1, h.2, rfl⟩) })) ?_
        refine Rc (un (p := .bool p1) (r := .bool np1) (Od.lc (Φ := IsV (.bool p1)) 5 20) rfl (fun w => by rw [← Hnp1.out]; go_simp)) ?_
        refine Rc (mv (Od.lc (Φ := IsV (.bool np1)) 6 21)) ?_
        refine RcB 7 22 np1 false (fun hb => by subst hb; exact mv (Od.lit (x := u3) 3)) ?_
        refine RcB 7 22 np1 false (fun hb => by subst hb; exact mv (Od.lit (x := .slice (some ⟨g, o, none⟩) n cp) 0)) ?_
        refine RcB 7 22 np1 false (fun hb => by subst hb; exact mv (Od.lit (x := .int .i64 ((i : Nat) : Int)) 4)) ?_
        refine RcB 7 22 np1 false (fun hb => by subst hb; exact ixq (ix_Cl g o cp n i HG.out.2.1) (Od.lc (Φ := IsV (.slice (some ⟨g, o, none⟩) n cp)) 9 24) (Od.lc (Φ := IsV (.int .i64 ((i : Nat) : Int))) 10 25)) ?_
        refine RcB 7 22 np1 false (fun hb => by subst hb; exact fa (fa_Cl0 g (o + 9 * i)) (Od.lc 11 26)) ?_
        refine RcB 7 22 np1 false (fun hb => by subst hb; exact lv (Φ := IsV (encS nm)) _ (fun w' e => ld_str _ _ _ ((HE.out.trans e).cell HU.out.2.2)) (Od.lc 12 27) (fun _ _ => rfl)) ?_
        refine RcB 7 22 np1 false (fun hb => by subst hb; exact cl2 (Φ := IsV u3) (Ψ := IsV (encS nm)) (Χ := IsV (.bool p2)) (en Tryz.func26) (Od.lc 8 23) (Od.lc 13 28) (fun x0 y0 w' hE d0 d1 => by { obtain rfl : x0 = u3 := d0; obtain rfl : y0 = encS nm := d1; exact HHS.out w' hE })) ?_
        refine Rc (pkO (Od.lc (Φ := IsV (.bool np1)) 7 22) (fun hb => by subst hb; exact (Od.lc (Φ := IsV (.bool p2)) 14 29)) Hr1.out) ?_
        refine Rc (mv (Od.lc (Φ := IsV (.bool r1)) 15 30)) ?_
        refine RcB 16 31 r1 false (fun hb => by subst hb; exact mv (Od.lit (x := .slice (some ⟨g, o, none⟩) n cp) 0)) ?_
        refine RcB 16 31 r1 false (fun hb => by subst hb; exact mv (Od.lit (x := .int .i64 ((i : Nat) : Int)) 4)) ?_
        refine RcB 16 31 r1 false (fun hb => by subst hb; exact ixq (ix_Cl g o cp n i HG.out.2.1) (Od.lc (Φ := IsV (.slice (some ⟨g, o, none⟩) n cp)) 17 32) (Od.lc (Φ := IsV (.int .i64 ((i : Nat) : Int))) 18 33)) ?_
        refine RcB 16 31 r1 false (fun hb => by subst hb; exact fa (fa_Cl1 g (o + 9 * i)) (Od.lc 19 34)) ?_
        refine RcB 16 31 r1 false (fun hb => by subst hb; exact lv (Φ := IsV (.agg us.toArray)) _ (fun w' e => ldM (by kernel_rfl) (by kernel_rfl) HU.out.2.1 (fun j v hj => (HE.out.trans e).cell (HU.out.1 j v hj))) (Od.lc 20 35) (fun _ _ => rfl)) ?_
        refine RcB 16 31 r1 false (fun hb => by subst hb; exact cl1 (Φ := IsV (.agg us.toArray)) (Χ := IsV (.int .i64 ((q : Nat) : Int))) (en Tryz.func35) (Od.lc 21 36) (fun x0 w' hE d0 => by { obtain rfl : x0 = .agg us.toArray := d0; exact Calls.mono (HSZ.out w' (HE.out.trans hE)) (fun e w2 h => ⟨_, h.1, h.2, rfl⟩) })) ?_
        refine RcB 16 31 r1 false (fun hb => by subst hb; exact bn (r := .bool c3) (Od.lc (Φ := IsV (.int .i64 ((q : Nat) : Int))) 22 37) Od.con (hr := fun w => by have hx9 := (show decide ((200 : Int) < (q : Int)) = c3 from by rw [← Hc3.out]; apply decide_eq_decide.2; omega); go_simp)) ?_
        refine Rc (pkO (Od.lc (Φ := IsV (.bool r1)) 16 31) (fun hb => by subst hb; exact (Od.lc (Φ := IsV (.bool c3)) 23 38)) Hr2.out) ?_
        refine Rc (mv (Od.lc (Φ := IsV (.bool r2)) 24 39)) ?_
        refine RcB 25 40 r2 false (fun hb => by subst hb; exact mv (Od.lit (x := .slice (some ⟨g, o, none⟩) n cp) 0)) ?_
        refine RcB 25 40 r2 false (fun hb => by subst hb; exact mv (Od.lit (x := .int .i64 ((i : Nat) : Int)) 4)) ?_
        refine RcB 25 40 r2 false (fun hb => by subst hb; exact ixq (ix_Cl g o cp n i HG.out.2.1) (Od.lc (Φ := IsV (.slice (some ⟨g, o, none⟩) n cp)) 26 41) (Od.lc (Φ := IsV (.int .i64 ((i : Nat) : Int))) 27 42)) ?_
        refine RcB 25 40 r2 false (fun hb => by subst hb; exact fa (fa_Cl1 g (o + 9 * i)) (Od.lc 28 43)) ?_
        refine RcB 25 40 r2 false (fun hb => by subst hb; exact lv (Φ := IsV (.agg us.toArray)) _ (fun w' e => ldM (by kernel_rfl) (by kernel_rfl) HU.out.2.1 (fun j v hj => (HE.out.trans e).cell (HU.out.1 j v hj))) (Od.lc 29 44) (fun _ _ => rfl)) ?_
        refine RcB 25 40 r2 false (fun hb => by subst hb; exact bs0G) ?_
        refine RcB 25 40 r2 false (fun hb => by subst hb; exact cl3 (Φ := IsV (.agg us.toArray)) (Ψ := IsSg []) (Χ := IsV (.bool gd)) (en Tryz.func36) (Od.lc 30 45) (Od.lc 31 46) Od.con (fun x0 y0 z0 w' hE d0 d1 d2 => by { obtain rfl : x0 = .agg us.toArray := d0; obtain rfl : z0 = .int .i64 20 := d2; exact Calls.mono (HGD.out w' y0 (HE.out.trans hE) d1) (fun e w2 h => ⟨_, h.1, h.2, rfl⟩) })) ?_
        refine RcB 25 40 r2 false (fun hb => by subst hb; exact un (p := .bool gd) (r := .bool ngd) (Od.lc (Φ := IsV (.bool gd)) 32 47) rfl (fun w => by rw [← Hngd.out]; go_simp)) ?_
        refine Rc (pkO (Od.lc (Φ := IsV (.bool r2)) 25 40) (fun hb => by subst hb; exact (Od.lc (Φ := IsV (.bool ngd)) 33 48)) Hr3.out) ?_
        exact RgAll.nil
      intro u X5 e5 hΦ _
      have q9 : u 34 = .bool r3 := hΦ 34 (by decide)
      simp only [layL, Act.put, List.setIfInBounds_toArray, List.set_cons_zero, List.set_cons_succ, Nat.reduceAdd]
      rw [q9]
      have HE5 := hid (HE.out.trans e5)
      have HRW5 := hid (HRW.out.ext e5)
      clear hΦ q9 e5 HRW HE HHS
      refine wpList_nil ?_
      cases r3 with
      | true =>
        have HR2 := hid (show rtE l = false by rw [HR.out, HRT2.out]; rfl)
        go_wp2_with fail
        go_ret
        exact ⟨by rw [HR2.out] <;> rfl, HE5.out⟩
      | false =>
        have HR2 := hid (show rtL [] l = rtL (nms (l.take (i + 1))) (l.drop (i + 1)) by rw [HRT2.out]; rfl)
        go_upto_region 9 with (fail)
        refine rgs 7 [some 50, some 51, some 52, some 53, some 54, some 55, some 56] [IsV (u3), IsV (.slice (some ⟨g, o, none⟩) n cp), IsV (.int .i64 ((i : Nat) : Int)), IsV (.pointer (some ⟨g, o + 9 * i, none⟩)), IsV (.pointer (some ⟨g, o + 9 * i, none⟩)), IsV (encS nm), IsSg [nm]] [] ?_ ?_ (hst := by repeat' (first | exact trivial | exact IsV.stb _ | exact IsSg.stb _ | apply IsIf.stb | apply And.intro))
        · refine Rc (mv (Od.lit (x := u3) 3)) ?_
          refine Rc (mv (Od.lit (x := .slice (some ⟨g, o, none⟩) n cp) 0)) ?_
          refine Rc (mv (Od.lit (x := .int .i64 ((i : Nat) : Int)) 4)) ?_
          refine Rc (ixq (ix_Cl g o cp n i HG.out.2.1) (Od.lc (Φ := IsV (.slice (some ⟨g, o, none⟩) n cp)) 1 51) (Od.lc (Φ := IsV (.int .i64 ((i : Nat) : Int))) 2 52)) ?_
          refine Rc (fa (fa_Cl0 g (o + 9 * i)) (Od.lc 3 53)) ?_
          refine Rc (lv (Φ := IsV (encS nm)) _ (fun w' e => ld_str _ _ _ ((HE5.out.trans e).cell HU.out.2.2)) (Od.lc 4 54) (fun _ _ => rfl)) ?_
          refine Rc (bs1G (Od.lc (Φ := IsV (encS nm)) 5 55)) ?_
          exact RgAll.nil
        intro u' X6 e6 hΦ _
        obtain ⟨gx, cx, hxv, hxc⟩ := hΦ 6 (by decide)
        have q0 : u' 0 = u3 := hΦ 0 (by decide)
        simp only [layL, Act.put, List.setIfInBounds_toArray, List.set_cons_zero, List.set_cons_succ, Nat.reduceAdd]
        rw [q0, hxv]
        have hsrc : SrcR 1 ([nm].map encS) (.slice (some ⟨gx, 0, none⟩) 1 cx) X6 := IsSg.src (b := [nm]) ⟨gx, cx, rfl, hxc⟩
        have E6 := HE5.out.trans e6
        have HRW6 := HRW5.out.ext e6
        clear hΦ hxv hxc q0 e6
        refine stL (fun K hK => wp_sx (.tmp 50) (.tmp 56) rfl w.heap.size (nms (l.take i)) [nm] u3 (.slice (some ⟨gx, 0, none⟩) 1 cx) rfl rfl HRW6 hsrc (by have := HNL.out; simp; omega) E6.size (fun v8 X8 q1 q2 q3 q4 => hK _ _ ?_))
        have HE8 := hid (show Ext w X8 from Below.grown E6 q2 E6.size (fun j hj => ((World.ownsRow.lt HRW6.1) j hj).1))
        have HRW8 := hid (show RwS w.heap.size (nms (l.take (i + 1))) v8 X8 by rw [HTK.out]; exact q1)
        clear hK K hsrc E6 HRW6 q1 q2 q3 q4
        go_simp
        refine stL (fun K hK => wp_mv (hK _ _ ?_))
        clear hK K
        try go_simp
        refine wpList_nil ?_
        have hx9 := HIW.out
        go_wp2_with fail
        go_roundg (gk - 1)
        case measure => have := HG.out; omega
        case rel => exact ⟨i + 1, rfl, by have := HG.out; omega, hid ⟨HE8.out, HRW8.out, HR2.out⟩⟩
    · have hil : ¬ ((i : Int) < (n : Int)) := by omega
      have HR2 := hid (show rtE l = true by rw [HR.out, S.out.2.2, List.drop_of_length_le (by rw [HN.out.1]; omega), rtL])
      have HE := hid S.out.1
      clear S
      go_wp2_with fail
      go_ret
      exact ⟨by rw [HR2.out] <;> rfl, HE.out⟩
end
end Go.Proofs.YtenhciieboegbaaGreatDoor
