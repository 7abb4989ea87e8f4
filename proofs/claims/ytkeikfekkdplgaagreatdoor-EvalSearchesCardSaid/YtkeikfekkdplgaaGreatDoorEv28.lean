/-
 The examples of the law: their walk. (Printed by wip/gen/exam43.py.)
-/
import Derived.Test.YtkeikfekkdplgaaGreatDoorEv27
namespace Go.Proofs.YtkeikfekkdplgaaGreatDoor
open Go Go.RowKit Go.Maps Go.Shelf
set_option maxRecDepth 100000 in
set_option maxHeartbeats 16000000 in
theorem examples_f (w : World) : Calls Tryz.prog 10 #[] w (Ret w (IsV (.bool true))) := by
 have E : Ext w w := Ext.refl w
 go_enter Tryz.func10, Tryz.ntmps10
 go_upto_region 1 with (fail)
 refine rgs 4 [some 12, some 13, some 14, some 15] [IsNe (.var (⟨#[120]⟩)), IsNe (.num (4)), IsNe (.bin (12) (.var (⟨#[120]⟩)) (.num (4))), IsNe (.loop false (⟨#[120]⟩) (1) (10) (.bin (12) (.var (⟨#[120]⟩)) (.num (4))))] [] ?_ ?_ (hst := by repeat' (first | exact trivial | exact IsV.stb _ | apply IsIf.stb | exact IsNe.stb _ | exact IsVv.stb _ | exact IsOut.stb _ _ _ _ | exact IsNb.stb _ _ | exact IsS1.stb _ | exact IsI1.stb _ | exact IsI2.stb _ _ | exact IsN1.stb _ | exact IsEn.stb _ _ | exact IsShX.stb _ _ | exact IsI.stb _ _ | apply And.intro))
 ·refine Rc (cl (en Tryz.func40) rfl rfl (by kernel_rfl) (by kernel_rfl) fun v a w2 hE hd hf => by
    simp only [List.map_toArray, List.map_cons, List.map_nil]
    exact variable_f w2 _) ?_
  refine Rc (cl (en Tryz.func43) rfl rfl (by kernel_rfl) (by kernel_rfl) fun v a w2 hE hd hf => by
    simp only [List.map_toArray, List.map_cons, List.map_nil]
    exact num_f w2 _ (by decide)) ?_
  refine Rc (cl (en Tryz.func28) rfl rfl (by kernel_rfl) (by kernel_rfl) fun v a w2 hE hd hf => by
    have e1 : (IsNe (.var (⟨#[120]⟩))) (a.eval (.tmp 12)) w2 := ((Od.lc (Φ := IsNe (.var (⟨#[120]⟩))) 0 12) : Od _ _ _ _ _ _ _ _).out v a w2 hE hd hf
    have e2 : (IsNe (.num (4))) (a.eval (.tmp 13)) w2 := ((Od.lc (Φ := IsNe (.num (4))) 1 13) : Od _ _ _ _ _ _ _ _).out v a w2 hE hd hf
    simp only [List.map_toArray, List.map_cons, List.map_nil]
    exact two_f _ e1 e2) ?_
  refine Rc (cl (en Tryz.func42) rfl rfl (by kernel_rfl) (by kernel_rfl) fun v a w2 hE hd hf => by
    have e4 : (IsNe (.bin (12) (.var (⟨#[120]⟩)) (.num (4)))) (a.eval (.tmp 14)) w2 := ((Od.lc (Φ := IsNe (.bin (12) (.var (⟨#[120]⟩)) (.num (4)))) 2 14) : Od _ _ _ _ _ _ _ _).out v a w2 hE hd hf
    simp only [List.map_toArray, List.map_cons, List.map_nil]
    exact loop_f _ false rfl _ _ _ e4) ?_
  exact RgAll.nil
 intro v X1 e1 hΦ _
 obtain ⟨u, hu⟩ : ∃ u, v 3 = u := ⟨_, rfl⟩
 have hO : (IsNe (.loop false (⟨#[120]⟩) (1) (10) (.bin (12) (.var (⟨#[120]⟩)) (.num (4))))) u X1 := by rw [← hu]; exact hΦ 3 (by decide)
 simp only [layL, Act.put, uAx, u0x, u1x, Nat.reduceAdd]
 rw [hu]
 clear hΦ hu
 obtain ⟨us1, hus, hl1, hone, hnw, _⟩ := id hO
 subst hus
 refine stL (fun K hK => ?_)
 refine wp_alB (vs := zNd) al_Nd (fun Bn e3 => hK _ _ ?_)
 obtain ⟨g1, hg1⟩ : ∃ g, X1.heap.size = g := ⟨_, rfl⟩
 rw [hg1] at Bn ⊢
 generalize X1.alloc (.cells zNd.toArray 31) = Y2 at Bn e3 ⊢
 clear hK K
 go_simp
 refine stL (fun K hK => ?_)
 refine stVO (us := us1) Bn st_Nd rfl hl1 nwZN (fun X2 B1 O => hK _ _ ?_) (ho1 := hone)
 have e4 := O.ext e3 (Nat.le_of_eq hg1)
 have e2 := e1.trans e4
 have hx1 := IsNe.stb _ _ _ _ e4 hO
 replace E := E.trans e2
 clear hK K O e1 e2 e3 e4 Bn hone hnw hO hg1
 refine wpList_nil ?_
 go_upto_region 2 with (fail)
 refine rgs 6 [some 16, some 17, some 18, some 19, some 20, some 21] [IsNe (.var (⟨#[120]⟩)), IsNe (.var (⟨#[120]⟩)), IsNe (.bin (6) (.var (⟨#[120]⟩)) (.var (⟨#[120]⟩))), IsNe (.num (49)), IsNe (.bin (13) (.bin (6) (.var (⟨#[120]⟩)) (.var (⟨#[120]⟩))) (.num (49))), IsNe (.loop true (⟨#[120]⟩) (1) (10) (.bin (13) (.bin (6) (.var (⟨#[120]⟩)) (.var (⟨#[120]⟩))) (.num (49))))] [] ?_ ?_ (hst := by repeat' (first | exact trivial | exact IsV.stb _ | apply IsIf.stb | exact IsNe.stb _ | exact IsVv.stb _ | exact IsOut.stb _ _ _ _ | exact IsNb.stb _ _ | exact IsS1.stb _ | exact IsI1.stb _ | exact IsI2.stb _ _ | exact IsN1.stb _ | exact IsEn.stb _ _ | exact IsShX.stb _ _ | exact IsI.stb _ _ | apply And.intro))
 ·refine Rc (cl (en Tryz.func40) rfl rfl (by kernel_rfl) (by kernel_rfl) fun v a w2 hE hd hf => by
    simp only [List.map_toArray, List.map_cons, List.map_nil]
    exact variable_f w2 _) ?_
  refine Rc (cl (en Tryz.func40) rfl rfl (by kernel_rfl) (by kernel_rfl) fun v a w2 hE hd hf => by
    simp only [List.map_toArray, List.map_cons, List.map_nil]
    exact variable_f w2 _) ?_
  refine Rc (cl (en Tryz.func28) rfl rfl (by kernel_rfl) (by kernel_rfl) fun v a w2 hE hd hf => by
    have e1 : (IsNe (.var (⟨#[120]⟩))) (a.eval (.tmp 16)) w2 := ((Od.lc (Φ := IsNe (.var (⟨#[120]⟩))) 0 16) : Od _ _ _ _ _ _ _ _).out v a w2 hE hd hf
    have e2 : (IsNe (.var (⟨#[120]⟩))) (a.eval (.tmp 17)) w2 := ((Od.lc (Φ := IsNe (.var (⟨#[120]⟩))) 1 17) : Od _ _ _ _ _ _ _ _).out v a w2 hE hd hf
    simp only [List.map_toArray, List.map_cons, List.map_nil]
    exact two_f _ e1 e2) ?_
  refine Rc (cl (en Tryz.func43) rfl rfl (by kernel_rfl) (by kernel_rfl) fun v a w2 hE hd hf => by
    simp only [List.map_toArray, List.map_cons, List.map_nil]
    exact num_f w2 _ (by decide)) ?_
  refine Rc (cl (en Tryz.func28) rfl rfl (by kernel_rfl) (by kernel_rfl) fun v a w2 hE hd hf => by
    have e1 : (IsNe (.bin (6) (.var (⟨#[120]⟩)) (.var (⟨#[120]⟩)))) (a.eval (.tmp 18)) w2 := ((Od.lc (Φ := IsNe (.bin (6) (.var (⟨#[120]⟩)) (.var (⟨#[120]⟩)))) 2 18) : Od _ _ _ _ _ _ _ _).out v a w2 hE hd hf
    have e2 : (IsNe (.num (49))) (a.eval (.tmp 19)) w2 := ((Od.lc (Φ := IsNe (.num (49))) 3 19) : Od _ _ _ _ _ _ _ _).out v a w2 hE hd hf
    simp only [List.map_toArray, List.map_cons, List.map_nil]
    exact two_f _ e1 e2) ?_
  refine Rc (cl (en Tryz.func42) rfl rfl (by kernel_rfl) (by kernel_rfl) fun v a w2 hE hd hf => by
    have e4 : (IsNe (.bin (13) (.bin (6) (.var (⟨#[120]⟩)) (.var (⟨#[120]⟩))) (.num (49)))) (a.eval (.tmp 20)) w2 := ((Od.lc (Φ := IsNe (.bin (13) (.bin (6) (.var (⟨#[120]⟩)) (.var (⟨#[120]⟩))) (.num (49)))) 4 20) : Od _ _ _ _ _ _ _ _).out v a w2 hE hd hf
    simp only [List.map_toArray, List.map_cons, List.map_nil]
    exact loop_f _ true rfl _ _ _ e4) ?_
  exact RgAll.nil
 intro v X3 e1 hΦ _
 obtain ⟨u, hu⟩ : ∃ u, v 5 = u := ⟨_, rfl⟩
 have hO : (IsNe (.loop true (⟨#[120]⟩) (1) (10) (.bin (13) (.bin (6) (.var (⟨#[120]⟩)) (.var (⟨#[120]⟩))) (.num (49))))) u X3 := by rw [← hu]; exact hΦ 5 (by decide)
 simp only [layL, Act.put, uAx, u0x, u1x, Nat.reduceAdd]
 rw [hu]
 clear hΦ hu
 obtain ⟨us2, hus, hl2, hone, hnw, _⟩ := id hO
 subst hus
 refine stL (fun K hK => ?_)
 refine wp_alB (vs := zNd) al_Nd (fun Bn e3 => hK _ _ ?_)
 obtain ⟨g2, hg2⟩ : ∃ g, X3.heap.size = g := ⟨_, rfl⟩
 rw [hg2] at Bn ⊢
 generalize X3.alloc (.cells zNd.toArray 31) = Y4 at Bn e3 ⊢
 clear hK K
 go_simp
 refine stL (fun K hK => ?_)
 refine stVO (us := us2) Bn st_Nd rfl hl2 nwZN (fun X4 B2 O => hK _ _ ?_) (ho1 := hone)
 have e4 := O.ext e3 (Nat.le_of_eq hg2)
 have e2 := e1.trans e4
 have hx2 := IsNe.stb _ _ _ _ e4 hO
 replace E := E.trans e2
 replace B1 := B1.ext e2
 replace hx1 := IsNe.stb _ _ _ _ e2 hx1
 clear hK K O e1 e2 e3 e4 Bn hone hnw hO hg2
 refine wpList_nil ?_
 go_upto_region 3 with (fail)
 refine rgs 3 [some 22, some 23, some 3] [IsNe (.loop false (⟨#[120]⟩) (1) (10) (.bin (12) (.var (⟨#[120]⟩)) (.num (4)))), IsOut (.ok ⟨3, 3, true⟩) (0) [] [], IsNb X4.heap.size zOut] [] ?_ ?_ (hst := by repeat' (first | exact trivial | exact IsV.stb _ | apply IsIf.stb | exact IsNe.stb _ | exact IsVv.stb _ | exact IsOut.stb _ _ _ _ | exact IsNb.stb _ _ | exact IsS1.stb _ | exact IsI1.stb _ | exact IsI2.stb _ _ | exact IsN1.stb _ | exact IsEn.stb _ _ | exact IsShX.stb _ _ | exact IsI.stb _ _ | apply And.intro))
 ·refine Rc (lv _ (fun w' e => ld_Nd8 w' _ _ hl1 (B1.ext e)) (Od.lit 1) (fun w' e => IsNe.stb _ _ _ _ e hx1)) ?_
  refine Rc (cl (en Tryz.func41) rfl rfl (by kernel_rfl) (by kernel_rfl) fun v a w2 hE hd hf => by
    have e0 : (IsNe (.loop false (⟨#[120]⟩) (1) (10) (.bin (12) (.var (⟨#[120]⟩)) (.num (4))))) (a.eval (.tmp 22)) w2 := ((Od.lc (Φ := IsNe (.loop false (⟨#[120]⟩) (1) (10) (.bin (12) (.var (⟨#[120]⟩)) (.num (4))))) 0 22) : Od _ _ _ _ _ _ _ _).out v a w2 hE hd hf
    simp only [List.map_toArray, List.map_cons, List.map_nil]
    exact alone_f (s0 := 10) (res := .ok ⟨3, 3, true⟩) (left := 0) e0 (by decide) (wf_loop (by decide) (fun i i1 i2 => wf_bin (by decide) (wf_var (by omega)) (wf_num (by decide)))) (by kernel_rfl)) ?_
  refine Rc (alB al_Out (Nat.le_refl _)) ?_
  exact RgAll.nil
 intro v X5 e1 hΦ _
 obtain ⟨g3, hv2, hg3, Bn⟩ := hΦ 2 (by decide)
 obtain ⟨u, hu⟩ : ∃ u, v 1 = u := ⟨_, rfl⟩
 have hO : (IsOut (.ok ⟨3, 3, true⟩) (0) [] []) u X5 := by rw [← hu]; exact hΦ 1 (by decide)
 simp only [layL, Act.put, uAx, u0x, u1x, Nat.reduceAdd]
 rw [hv2, hu]
 clear hΦ hv2 hu
 refine stL (fun K hK => ?_)
 refine stOut Bn hO (fun _ _ _ h => h) (fun _ _ _ h => h) (fun X6 O3 O => hK _ _ ?_)
 have e2 := O.ext e1 hg3
 replace E := E.trans e2
 replace B1 := B1.ext e2
 replace hx1 := IsNe.stb _ _ _ _ e2 hx1
 replace B2 := B2.ext e2
 replace hx2 := IsNe.stb _ _ _ _ e2 hx2
 clear hK K O e1 e2 Bn hO
 refine wpList_nil ?_
 go_upto_region 4 with (fail)
 refine rgs 3 [some 24, some 25, some 4] [IsNe (.loop false (⟨#[120]⟩) (1) (10) (.bin (12) (.var (⟨#[120]⟩)) (.num (4)))), IsOut (.ok ⟨2, 10, false⟩) (0) [] [], IsNb X6.heap.size zOut] [] ?_ ?_ (hst := by repeat' (first | exact trivial | exact IsV.stb _ | apply IsIf.stb | exact IsNe.stb _ | exact IsVv.stb _ | exact IsOut.stb _ _ _ _ | exact IsNb.stb _ _ | exact IsS1.stb _ | exact IsI1.stb _ | exact IsI2.stb _ _ | exact IsN1.stb _ | exact IsEn.stb _ _ | exact IsShX.stb _ _ | exact IsI.stb _ _ | apply And.intro))
 ·refine Rc (lv _ (fun w' e => ld_Nd8 w' _ _ hl1 (B1.ext e)) (Od.lit 1) (fun w' e => IsNe.stb _ _ _ _ e hx1)) ?_
  refine Rc (cl (en Tryz.func41) rfl rfl (by kernel_rfl) (by kernel_rfl) fun v a w2 hE hd hf => by
    have e0 : (IsNe (.loop false (⟨#[120]⟩) (1) (10) (.bin (12) (.var (⟨#[120]⟩)) (.num (4))))) (a.eval (.tmp 24)) w2 := ((Od.lc (Φ := IsNe (.loop false (⟨#[120]⟩) (1) (10) (.bin (12) (.var (⟨#[120]⟩)) (.num (4))))) 0 24) : Od _ _ _ _ _ _ _ _).out v a w2 hE hd hf
    simp only [List.map_toArray, List.map_cons, List.map_nil]
    exact alone_f (s0 := 2) (res := .ok ⟨2, 10, false⟩) (left := 0) e0 (by decide) (wf_loop (by decide) (fun i i1 i2 => wf_bin (by decide) (wf_var (by omega)) (wf_num (by decide)))) (by kernel_rfl)) ?_
  refine Rc (alB al_Out (Nat.le_refl _)) ?_
  exact RgAll.nil
 intro v X7 e1 hΦ _
 obtain ⟨g4, hv2, hg4, Bn⟩ := hΦ 2 (by decide)
 obtain ⟨u, hu⟩ : ∃ u, v 1 = u := ⟨_, rfl⟩
 have hO : (IsOut (.ok ⟨2, 10, false⟩) (0) [] []) u X7 := by rw [← hu]; exact hΦ 1 (by decide)
 simp only [layL, Act.put, uAx, u0x, u1x, Nat.reduceAdd]
 rw [hv2, hu]
 clear hΦ hv2 hu
 refine stL (fun K hK => ?_)
 refine stOut Bn hO (fun _ _ _ h => h) (fun _ _ _ h => h) (fun X8 O4 O => hK _ _ ?_)
 have e2 := O.ext e1 hg4
 replace E := E.trans e2
 replace B1 := B1.ext e2
 replace hx1 := IsNe.stb _ _ _ _ e2 hx1
 replace B2 := B2.ext e2
 replace hx2 := IsNe.stb _ _ _ _ e2 hx2
 replace O3 := O3.ext e2
 clear hK K O e1 e2 Bn hO
 refine wpList_nil ?_
 go_upto_region 5 with (fail)
 refine rgs 3 [some 26, some 27, some 5] [IsNe (.loop true (⟨#[120]⟩) (1) (10) (.bin (13) (.bin (6) (.var (⟨#[120]⟩)) (.var (⟨#[120]⟩))) (.num (49)))), IsOut (.ok ⟨7, 7, true⟩) (3) [] [], IsNb X8.heap.size zOut] [] ?_ ?_ (hst := by repeat' (first | exact trivial | exact IsV.stb _ | apply IsIf.stb | exact IsNe.stb _ | exact IsVv.stb _ | exact IsOut.stb _ _ _ _ | exact IsNb.stb _ _ | exact IsS1.stb _ | exact IsI1.stb _ | exact IsI2.stb _ _ | exact IsN1.stb _ | exact IsEn.stb _ _ | exact IsShX.stb _ _ | exact IsI.stb _ _ | apply And.intro))
 ·refine Rc (lv _ (fun w' e => ld_Nd8 w' _ _ hl2 (B2.ext e)) (Od.lit 2) (fun w' e => IsNe.stb _ _ _ _ e hx2)) ?_
  refine Rc (cl (en Tryz.func41) rfl rfl (by kernel_rfl) (by kernel_rfl) fun v a w2 hE hd hf => by
    have e0 : (IsNe (.loop true (⟨#[120]⟩) (1) (10) (.bin (13) (.bin (6) (.var (⟨#[120]⟩)) (.var (⟨#[120]⟩))) (.num (49))))) (a.eval (.tmp 26)) w2 := ((Od.lc (Φ := IsNe (.loop true (⟨#[120]⟩) (1) (10) (.bin (13) (.bin (6) (.var (⟨#[120]⟩)) (.var (⟨#[120]⟩))) (.num (49))))) 0 26) : Od _ _ _ _ _ _ _ _).out v a w2 hE hd hf
    simp only [List.map_toArray, List.map_cons, List.map_nil]
    exact alone_f (s0 := 10) (res := .ok ⟨7, 7, true⟩) (left := 3) e0 (by decide) (wf_loop (by decide) (fun i i1 i2 => wf_bin (by decide) (wf_bin (by decide) (wf_var (by omega)) (wf_var (by omega))) (wf_num (by decide)))) (by kernel_rfl)) ?_
  refine Rc (alB al_Out (Nat.le_refl _)) ?_
  exact RgAll.nil
 intro v X9 e1 hΦ _
 obtain ⟨g5, hv2, hg5, Bn⟩ := hΦ 2 (by decide)
 obtain ⟨u, hu⟩ : ∃ u, v 1 = u := ⟨_, rfl⟩
 have hO : (IsOut (.ok ⟨7, 7, true⟩) (3) [] []) u X9 := by rw [← hu]; exact hΦ 1 (by decide)
 simp only [layL, Act.put, uAx, u0x, u1x, Nat.reduceAdd]
 rw [hv2, hu]
 clear hΦ hv2 hu
 refine stL (fun K hK => ?_)
 refine stOut Bn hO (fun _ _ _ h => h) (fun _ _ _ h => h) (fun X10 O5 O => hK _ _ ?_)
 have e2 := O.ext e1 hg5
 replace E := E.trans e2
 replace B1 := B1.ext e2
 replace hx1 := IsNe.stb _ _ _ _ e2 hx1
 replace B2 := B2.ext e2
 replace hx2 := IsNe.stb _ _ _ _ e2 hx2
 replace O3 := O3.ext e2
 replace O4 := O4.ext e2
 clear hK K O e1 e2 Bn hO
 refine wpList_nil ?_
 go_upto_region 6 with (fail)
 refine rgs 3 [some 28, some 29, some 6] [IsNe (.loop true (⟨#[120]⟩) (1) (10) (.bin (13) (.bin (6) (.var (⟨#[120]⟩)) (.var (⟨#[120]⟩))) (.num (49)))), IsOut (.ok ⟨4, 11, false⟩) (0) [] [], IsNb X10.heap.size zOut] [] ?_ ?_ (hst := by repeat' (first | exact trivial | exact IsV.stb _ | apply IsIf.stb | exact IsNe.stb _ | exact IsVv.stb _ | exact IsOut.stb _ _ _ _ | exact IsNb.stb _ _ | exact IsS1.stb _ | exact IsI1.stb _ | exact IsI2.stb _ _ | exact IsN1.stb _ | exact IsEn.stb _ _ | exact IsShX.stb _ _ | exact IsI.stb _ _ | apply And.intro))
 ·refine Rc (lv _ (fun w' e => ld_Nd8 w' _ _ hl2 (B2.ext e)) (Od.lit 2) (fun w' e => IsNe.stb _ _ _ _ e hx2)) ?_
  refine Rc (cl (en Tryz.func41) rfl rfl (by kernel_rfl) (by kernel_rfl) fun v a w2 hE hd hf => by
    have e0 : (IsNe (.loop true (⟨#[120]⟩) (1) (10) (.bin (13) (.bin (6) (.var (⟨#[120]⟩)) (.var (⟨#[120]⟩))) (.num (49))))) (a.eval (.tmp 28)) w2 := ((Od.lc (Φ := IsNe (.loop true (⟨#[120]⟩) (1) (10) (.bin (13) (.bin (6) (.var (⟨#[120]⟩)) (.var (⟨#[120]⟩))) (.num (49))))) 0 28) : Od _ _ _ _ _ _ _ _).out v a w2 hE hd hf
    simp only [List.map_toArray, List.map_cons, List.map_nil]
    exact alone_f (s0 := 3) (res := .ok ⟨4, 11, false⟩) (left := 0) e0 (by decide) (wf_loop (by decide) (fun i i1 i2 => wf_bin (by decide) (wf_bin (by decide) (wf_var (by omega)) (wf_var (by omega))) (wf_num (by decide)))) (by kernel_rfl)) ?_
  refine Rc (alB al_Out (Nat.le_refl _)) ?_
  exact RgAll.nil
 intro v X11 e1 hΦ _
 obtain ⟨g6, hv2, hg6, Bn⟩ := hΦ 2 (by decide)
 obtain ⟨u, hu⟩ : ∃ u, v 1 = u := ⟨_, rfl⟩
 have hO : (IsOut (.ok ⟨4, 11, false⟩) (0) [] []) u X11 := by rw [← hu]; exact hΦ 1 (by decide)
 simp only [layL, Act.put, uAx, u0x, u1x, Nat.reduceAdd]
 rw [hv2, hu]
 clear hΦ hv2 hu
 refine stL (fun K hK => ?_)
 refine stOut Bn hO (fun _ _ _ h => h) (fun _ _ _ h => h) (fun X12 O6 O => hK _ _ ?_)
 have e2 := O.ext e1 hg6
 replace E := E.trans e2
 replace B1 := B1.ext e2
 replace hx1 := IsNe.stb _ _ _ _ e2 hx1
 replace B2 := B2.ext e2
 replace hx2 := IsNe.stb _ _ _ _ e2 hx2
 replace O3 := O3.ext e2
 replace O4 := O4.ext e2
 replace O5 := O5.ext e2
 clear hK K O e1 e2 Bn hO
 refine wpList_nil ?_
 go_upto_region 7 with (fail)
 refine rgs 5 [some 30, some 31, some 32, some 33, some 7] [IsNe (.num (2)), IsNe (.cell (⟨#[97]⟩)), IsNe (.bin (4) (.num (2)) (.cell (⟨#[97]⟩))), IsOut (.error 440) (0) [] [], IsNb X12.heap.size zOut] [] ?_ ?_ (hst := by repeat' (first | exact trivial | exact IsV.stb _ | apply IsIf.stb | exact IsNe.stb _ | exact IsVv.stb _ | exact IsOut.stb _ _ _ _ | exact IsNb.stb _ _ | exact IsS1.stb _ | exact IsI1.stb _ | exact IsI2.stb _ _ | exact IsN1.stb _ | exact IsEn.stb _ _ | exact IsShX.stb _ _ | exact IsI.stb _ _ | apply And.intro))
 ·refine Rc (cl (en Tryz.func43) rfl rfl (by kernel_rfl) (by kernel_rfl) fun v a w2 hE hd hf => by
    simp only [List.map_toArray, List.map_cons, List.map_nil]
    exact num_f w2 _ (by decide)) ?_
  refine Rc bdCell ?_
  refine Rc (cl (en Tryz.func28) rfl rfl (by kernel_rfl) (by kernel_rfl) fun v a w2 hE hd hf => by
    have e1 : (IsNe (.num (2))) (a.eval (.tmp 30)) w2 := ((Od.lc (Φ := IsNe (.num (2))) 0 30) : Od _ _ _ _ _ _ _ _).out v a w2 hE hd hf
    have e2 : (IsNe (.cell (⟨#[97]⟩))) (a.eval (.tmp 31)) w2 := ((Od.lc (Φ := IsNe (.cell (⟨#[97]⟩))) 1 31) : Od _ _ _ _ _ _ _ _).out v a w2 hE hd hf
    simp only [List.map_toArray, List.map_cons, List.map_nil]
    exact two_f _ e1 e2) ?_
  refine Rc (cl (en Tryz.func41) rfl rfl (by kernel_rfl) (by kernel_rfl) fun v a w2 hE hd hf => by
    have e0 : (IsNe (.bin (4) (.num (2)) (.cell (⟨#[97]⟩)))) (a.eval (.tmp 32)) w2 := ((Od.lc (Φ := IsNe (.bin (4) (.num (2)) (.cell (⟨#[97]⟩)))) 2 32) : Od _ _ _ _ _ _ _ _).out v a w2 hE hd hf
    simp only [List.map_toArray, List.map_cons, List.map_nil]
    exact alone_f (s0 := 0) (res := .error 440) (left := 0) e0 (by decide) (wf_bin (by decide) (wf_num (by decide)) trivial) (by kernel_rfl)) ?_
  refine Rc (alB al_Out (Nat.le_refl _)) ?_
  exact RgAll.nil
 intro v X13 e1 hΦ _
 obtain ⟨g7, hv4, hg7, Bn⟩ := hΦ 4 (by decide)
 obtain ⟨u, hu⟩ : ∃ u, v 3 = u := ⟨_, rfl⟩
 have hO : (IsOut (.error 440) (0) [] []) u X13 := by rw [← hu]; exact hΦ 3 (by decide)
 simp only [layL, Act.put, uAx, u0x, u1x, Nat.reduceAdd]
 rw [hv4, hu]
 clear hΦ hv4 hu
 refine stL (fun K hK => ?_)
 refine stOut Bn hO (fun _ _ _ h => h) (fun _ _ _ h => h) (fun X14 O7 O => hK _ _ ?_)
 have e2 := O.ext e1 hg7
 replace E := E.trans e2
 replace B1 := B1.ext e2
 replace hx1 := IsNe.stb _ _ _ _ e2 hx1
 replace B2 := B2.ext e2
 replace hx2 := IsNe.stb _ _ _ _ e2 hx2
 replace O3 := O3.ext e2
 replace O4 := O4.ext e2
 replace O5 := O5.ext e2
 replace O6 := O6.ext e2
 clear hK K O e1 e2 Bn hO
 refine wpList_nil ?_
 go_upto_region 8 with (fail)
 refine rgs 1 [some 34] [IsNe (.val (⟨#[104, 58, 55]⟩) 0)] [] ?_ ?_ (hst := by repeat' (first | exact trivial | exact IsV.stb _ | apply IsIf.stb | exact IsNe.stb _ | exact IsVv.stb _ | exact IsOut.stb _ _ _ _ | exact IsNb.stb _ _ | exact IsS1.stb _ | exact IsI1.stb _ | exact IsI2.stb _ _ | exact IsN1.stb _ | exact IsEn.stb _ _ | exact IsShX.stb _ _ | exact IsI.stb _ _ | apply And.intro))
 ·refine Rc bdVal ?_
  exact RgAll.nil
 intro v X15 e1 hΦ _
 obtain ⟨u, hu⟩ : ∃ u, v 0 = u := ⟨_, rfl⟩
 have hO : (IsNe (.val (⟨#[104, 58, 55]⟩) 0)) u X15 := by rw [← hu]; exact hΦ 0 (by decide)
 simp only [layL, Act.put, uAx, u0x, u1x]
 rw [hu]
 clear hΦ hu
 obtain ⟨us8, hus, hl8, hone, hnw, _⟩ := id hO
 subst hus
 refine stL (fun K hK => ?_)
 refine wp_alB (vs := zNd) al_Nd (fun Bn e3 => hK _ _ ?_)
 obtain ⟨g8, hg8⟩ : ∃ g, X15.heap.size = g := ⟨_, rfl⟩
 rw [hg8] at Bn ⊢
 generalize X15.alloc (.cells zNd.toArray 31) = Y16 at Bn e3 ⊢
 clear hK K
 go_simp
 refine stL (fun K hK => ?_)
 refine stVO (us := us8) Bn st_Nd rfl hl8 nwZN (fun X16 B8 O => hK _ _ ?_) (ho1 := hone)
 have e4 := O.ext e3 (Nat.le_of_eq hg8)
 have e2 := e1.trans e4
 have hx8 := IsNe.stb _ _ _ _ e4 hO
 replace E := E.trans e2
 replace B1 := B1.ext e2
 replace hx1 := IsNe.stb _ _ _ _ e2 hx1
 replace B2 := B2.ext e2
 replace hx2 := IsNe.stb _ _ _ _ e2 hx2
 replace O3 := O3.ext e2
 replace O4 := O4.ext e2
 replace O5 := O5.ext e2
 replace O6 := O6.ext e2
 replace O7 := O7.ext e2
 clear hK K O e1 e2 e3 e4 Bn hone hnw hO hg8
 refine wpList_nil ?_
 go_upto_region 9 with (fail)
 refine rgs 3 [some 35, some 36, some 9] [IsNe (.val (⟨#[104, 58, 55]⟩) 0), IsOut (.error 6) (0) [⟨#[104, 58, 55]⟩] [], IsNb X16.heap.size zOut] [] ?_ ?_ (hst := by repeat' (first | exact trivial | exact IsV.stb _ | apply IsIf.stb | exact IsNe.stb _ | exact IsVv.stb _ | exact IsOut.stb _ _ _ _ | exact IsNb.stb _ _ | exact IsS1.stb _ | exact IsI1.stb _ | exact IsI2.stb _ _ | exact IsN1.stb _ | exact IsEn.stb _ _ | exact IsShX.stb _ _ | exact IsI.stb _ _ | apply And.intro))
 ·refine Rc (lv _ (fun w' e => ld_Nd8 w' _ _ hl8 (B8.ext e)) (Od.lit 8) (fun w' e => IsNe.stb _ _ _ _ e hx8)) ?_
  refine Rc (cl (en Tryz.func41) rfl rfl (by kernel_rfl) (by kernel_rfl) fun v a w2 hE hd hf => by
    have e0 : (IsNe (.val (⟨#[104, 58, 55]⟩) 0)) (a.eval (.tmp 35)) w2 := ((Od.lc (Φ := IsNe (.val (⟨#[104, 58, 55]⟩) 0)) 0 35) : Od _ _ _ _ _ _ _ _).out v a w2 hE hd hf
    simp only [List.map_toArray, List.map_cons, List.map_nil]
    exact alone_g (s0 := 0) (by decide) (by obtain ⟨us, hq, hl, _, _, hn⟩ := e0; exact ⟨us, hq, hl, evhV (o := none) (vv := 0) (by decide) hn rfl (fun _ h => by cases h)⟩)) ?_
  refine Rc (alB al_Out (Nat.le_refl _)) ?_
  exact RgAll.nil
 intro v X17 e1 hΦ _
 obtain ⟨g9, hv2, hg9, Bn⟩ := hΦ 2 (by decide)
 obtain ⟨u, hu⟩ : ∃ u, v 1 = u := ⟨_, rfl⟩
 have hO : (IsOut (.error 6) (0) [⟨#[104, 58, 55]⟩] []) u X17 := by rw [← hu]; exact hΦ 1 (by decide)
 simp only [layL, Act.put, uAx, u0x, u1x, Nat.reduceAdd]
 rw [hv2, hu]
 clear hΦ hv2 hu
 refine stL (fun K hK => ?_)
 refine stOut Bn hO (fun _ _ _ h => h) (fun _ O _ h => h.out Bn O) (fun X18 O9 O => hK _ _ ?_)
 have e2 := O.ext e1 hg9
 replace E := E.trans e2
 replace B1 := B1.ext e2
 replace hx1 := IsNe.stb _ _ _ _ e2 hx1
 replace B2 := B2.ext e2
 replace hx2 := IsNe.stb _ _ _ _ e2 hx2
 replace B8 := B8.ext e2
 replace hx8 := IsNe.stb _ _ _ _ e2 hx8
 replace O3 := O3.ext e2
 replace O4 := O4.ext e2
 replace O5 := O5.ext e2
 replace O6 := O6.ext e2
 replace O7 := O7.ext e2
 clear hK K O e1 e2 Bn hO
 refine wpList_nil ?_
 go_upto_region 10 with (fail)
 refine rgs 8 [some 37, some 38, some 39, some 40, some 41, some 42, some 43, some 10] [IsV (.agg #[.slice none 0 0]), IsI 2 12, IsN1 12, IsI1 2, IsEn (⟨#[104, 58, 55]⟩) 12, IsV (.agg #[.int .i64 0, .int .i64 0, .int .i64 0]), IsShX (⟨#[104, 58, 55]⟩) 12, IsNb X18.heap.size [.slice none 0 0]] [] ?_ ?_ (hst := by repeat' (first | exact trivial | exact IsV.stb _ | apply IsIf.stb | exact IsNe.stb _ | exact IsVv.stb _ | exact IsOut.stb _ _ _ _ | exact IsNb.stb _ _ | exact IsS1.stb _ | exact IsI1.stb _ | exact IsI2.stb _ _ | exact IsN1.stb _ | exact IsEn.stb _ _ | exact IsShX.stb _ _ | exact IsI.stb _ _ | apply And.intro))
 ·refine Rc bdShN ?_
  refine Rc (cl1 (en Tryz.func26) Od.con (fun x0 w' hE d0 => by { obtain rfl : x0 = .int .i64 12 := d0; exact ROf_f w' 12 (by decide) (by decide) })) ?_
  refine Rc (bsN1 (Od.lc (Φ := IsI 2 12) 1 38)) ?_
  refine Rc bsI1 ?_
  refine Rc (bdEnX (z := 12) (Od.lc 2 39) (Od.lc 3 40)) ?_
  refine Rc bdSo ?_
  refine Rc (cl3 (en Tryz.func25) (Od.lc (Φ := IsV (.agg #[.slice none 0 0])) 0 37) (Od.lc (Φ := IsEn (⟨#[104, 58, 55]⟩) 12) 4 41) (Od.lc (Φ := IsV (.agg #[.int .i64 0, .int .i64 0, .int .i64 0])) 5 42) (fun x0 x1 x2 w' hE d0 d1 d2 => addX d0 d1 d2)) ?_
  refine Rc (alB al_Sh (Nat.le_refl _)) ?_
  exact RgAll.nil
 intro v X19 e1 hΦ _
 obtain ⟨g10, hv10, hg10, B10⟩ := hΦ 7 (by decide)
 obtain ⟨gv, gh, gs, gS, cS, hv6, BS, PS⟩ := hΦ 6 (by decide)
 simp only [layL, Act.put, uAx, u0x, u1x, Nat.reduceAdd]
 rw [hv6, hv10]
 clear hΦ hv6 hv10
 refine stL (fun K hK => ?_)
 refine stVO (us := [.slice (some ⟨gS, 0, none⟩) 1 cS]) B10 st_Sh rfl rfl nwNil (fun X20 B10' O => hK _ _ ?_)
 have e2 := O.ext e1 hg10
 replace PS := PS.only O B10
 replace BS := (Ob.only O).bk BS (fun h => by have h9 := BS.c 0 _ rfl; rw [h, B10.c 0 _ rfl] at h9; cases h9)
 replace B10 := B10'
 clear B10'
 replace E := E.trans e2
 replace B1 := B1.ext e2
 replace hx1 := IsNe.stb _ _ _ _ e2 hx1
 replace B2 := B2.ext e2
 replace hx2 := IsNe.stb _ _ _ _ e2 hx2
 replace B8 := B8.ext e2
 replace hx8 := IsNe.stb _ _ _ _ e2 hx8
 replace O3 := O3.ext e2
 replace O4 := O4.ext e2
 replace O5 := O5.ext e2
 replace O6 := O6.ext e2
 replace O7 := O7.ext e2
 replace O9 := O9.ext e2
 clear hK K O e1 e2
 refine wpList_nil ?_
 go_upto_region 11 with (fail)
 refine rgs 5 [some 44, some 45, some 46, some 47, some 11] [IsNe (.val (⟨#[104, 58, 55]⟩) 0), IsV (.agg #[.slice (some ⟨gS, 0, none⟩) 1 cS]), IsI2 1 2, IsOut (.ok ⟨12, 12, true⟩) (0) [⟨#[104, 58, 55]⟩] [2], IsNb X20.heap.size zOut] [] ?_ ?_ (hst := by repeat' (first | exact trivial | exact IsV.stb _ | apply IsIf.stb | exact IsNe.stb _ | exact IsVv.stb _ | exact IsOut.stb _ _ _ _ | exact IsNb.stb _ _ | exact IsS1.stb _ | exact IsI1.stb _ | exact IsI2.stb _ _ | exact IsN1.stb _ | exact IsEn.stb _ _ | exact IsShX.stb _ _ | exact IsI.stb _ _ | apply And.intro))
 ·refine Rc (lv _ (fun w' e => ld_Nd8 w' _ _ hl8 (B8.ext e)) (Od.lit 8) (fun w' e => IsNe.stb _ _ _ _ e hx8)) ?_
  refine Rc (lvV B10 ld_Sh (Od.lit 10)) ?_
  refine Rc bsI2 ?_
  refine Rc (cl (en Tryz.func16) rfl rfl (by kernel_rfl) (by kernel_rfl) fun v a w2 hE hd hf => by
    have e0 : (IsNe (.val (⟨#[104, 58, 55]⟩) 0)) (a.eval (.tmp 44)) w2 := ((Od.lc (Φ := IsNe (.val (⟨#[104, 58, 55]⟩) 0)) 0 44) : Od _ _ _ _ _ _ _ _).out v a w2 hE hd hf
    have e1 : (IsV (.agg #[.slice (some ⟨gS, 0, none⟩) 1 cS])) (a.eval (.tmp 45)) w2 := ((Od.lc (Φ := IsV (.agg #[.slice (some ⟨gS, 0, none⟩) 1 cS])) 1 45) : Od _ _ _ _ _ _ _ _).out v a w2 hE hd hf
    have e2 : (IsI2 1 2) (a.eval (.tmp 46)) w2 := ((Od.lc (Φ := IsI2 1 2) 2 46) : Od _ _ _ _ _ _ _ _).out v a w2 hE hd hf
    simp only [List.map_toArray, List.map_cons, List.map_nil]
    obtain ⟨us, hq, hl, _, _, hn⟩ := e0
    obtain ⟨gg, hq2, k1, k2⟩ := e2
    rw [hq, (e1 : a.eval (.tmp 45) = _), hq2]
    exact run_f (s0 := 0) (ca := none) (va := none) hl (by decide) (evhV (o := some (hsE (⟨#[104, 58, 55]⟩) gv gh gs)) (vv := 12) (by decide) hn ⟨gS, cS, rfl, BS.ext hE, rfl, rfl, nwHs _ _ _ _⟩ (fun hs h => by cases h; exact (PS.ext hE).fit k1 k2))) ?_
  refine Rc (alB al_Out (Nat.le_refl _)) ?_
  exact RgAll.nil
 intro v X21 e1 hΦ _
 obtain ⟨g11, hv4, hg11, Bn⟩ := hΦ 4 (by decide)
 obtain ⟨u, hu⟩ : ∃ u, v 3 = u := ⟨_, rfl⟩
 have hO : (IsOut (.ok ⟨12, 12, true⟩) (0) [⟨#[104, 58, 55]⟩] [2]) u X21 := by rw [← hu]; exact hΦ 3 (by decide)
 simp only [layL, Act.put, uAx, u0x, u1x, Nat.reduceAdd]
 rw [hv4, hu]
 clear hΦ hv4 hu
 refine stL (fun K hK => ?_)
 refine stOut Bn hO (fun _ O _ h => h.out Bn O) (fun _ O _ h => h.out Bn O) (fun X22 O11 O => hK _ _ ?_)
 have e2 := O.ext e1 hg11
 replace E := E.trans e2
 replace B1 := B1.ext e2
 replace hx1 := IsNe.stb _ _ _ _ e2 hx1
 replace B2 := B2.ext e2
 replace hx2 := IsNe.stb _ _ _ _ e2 hx2
 replace B8 := B8.ext e2
 replace hx8 := IsNe.stb _ _ _ _ e2 hx8
 replace O3 := O3.ext e2
 replace O4 := O4.ext e2
 replace O5 := O5.ext e2
 replace O6 := O6.ext e2
 replace O7 := O7.ext e2
 replace O9 := O9.ext e2
 clear hK K O e1 e2 Bn hO
 refine wpList_nil ?_
 go_upto_region 12 with (fail)
 clear BS PS B10
 refine rgs 32 [some 48, some 49, some 50, some 51, some 52, some 53, some 54, some 55, some 56, some 57, some 58, some 59, some 60, some 61, some 62, some 63, some 64, some 65, some 66, some 67, some 68, some 69, some 70, some 71, some 72, some 73, some 74, some 75, some 76, some 77, some 78, some 79] [IsV (.pointer (some ⟨g3, 0, none⟩)), IsVv (.ok ⟨3, 3, true⟩), IsV (.bool true), IsV (.bool false), IsV (.bool false), IsV (.pointer (some ⟨g3, 12, none⟩)), IsV (.int .i64 ((0 : Nat) : Int)), IsV (.bool false), IsV (.bool false), IsV (.bool false), IsV (.pointer (some ⟨g4, 0, none⟩)), IsVv (.ok ⟨2, 10, false⟩), IsV (.bool true), IsV (.bool false), IsV (.bool false), IsV (.bool false), IsV (.pointer (some ⟨g5, 0, none⟩)), IsVv (.ok ⟨7, 7, true⟩), IsV (.bool true), IsV (.bool false), IsV (.bool false), IsV (.bool false), IsV (.pointer (some ⟨g5, 12, none⟩)), IsV (.int .i64 ((3 : Nat) : Int)), IsV (.bool false), IsV (.bool false), IsV (.bool false), IsV (.pointer (some ⟨g6, 0, none⟩)), IsVv (.ok ⟨4, 11, false⟩), IsV (.bool true), IsV (.bool false), IsV (.bool false)] [] ?_ ?_ (hst := by repeat' (first | exact trivial | exact IsV.stb _ | apply IsIf.stb | exact IsNe.stb _ | exact IsVv.stb _ | exact IsOut.stb _ _ _ _ | exact IsNb.stb _ _ | exact IsS1.stb _ | exact IsI1.stb _ | exact IsI2.stb _ _ | exact IsN1.stb _ | exact IsEn.stb _ _ | exact IsShX.stb _ _ | exact IsI.stb _ _ | apply And.intro))
 ·refine Rc (fa (fa_Out0 g3) (Od.lit 3)) ?_
  refine Rc (ldVv O3 (Od.lc (Φ := IsV (.pointer (some ⟨g3, 0, none⟩))) 0 48)) ?_
  refine Rc (cl (en Tryz.func38) rfl rfl (by kernel_rfl) (by kernel_rfl) fun v a w2 hE hd hf => by
    have e0 : (IsVv (.ok ⟨3, 3, true⟩)) (a.eval (.tmp 49)) w2 := ((Od.lc (Φ := IsVv (.ok ⟨3, 3, true⟩)) 1 49) : Od _ _ _ _ _ _ _ _).out v a w2 hE hd hf
    simp only [List.map_toArray, List.map_cons, List.map_nil]
    exact is_v e0 (by decide) (by decide)) ?_
  refine Rc (un (r := .bool false) (Od.lc (Φ := IsV (.bool true)) 2 50) (by rfl) (hr := fun w => by go_simp)) ?_
  refine Rc (mv (Od.lc (Φ := IsV (.bool false)) 3 51)) ?_
  refine RcG 4 52 false (fa (fa_Out2 g3) (Od.lit 3)) ?_
  refine RcG 4 52 false (ldLeft O3 (Od.lc (Φ := IsV (.pointer (some ⟨g3, 12, none⟩))) 5 53)) ?_
  refine RcG 4 52 false (bn (r := .bool false) (Od.lc (Φ := IsV (.int .i64 ((0 : Nat) : Int))) 6 54) Od.con (hr := fun w => by go_simp)) ?_
  refine Rc (pk (Od.lc (Φ := IsV (.bool false)) 4 52) (Od.lc (Φ := IsV (.bool false)) 7 55)) ?_
  refine Rc (mv (Od.lc (Φ := IsV (.bool false)) 8 56)) ?_
  refine RcG 9 57 false (fa (fa_Out0 g4) (Od.lit 4)) ?_
  refine RcG 9 57 false (ldVv O4 (Od.lc (Φ := IsV (.pointer (some ⟨g4, 0, none⟩))) 10 58)) ?_
  refine RcG 9 57 false (cl (en Tryz.func38) rfl rfl (by kernel_rfl) (by kernel_rfl) fun v a w2 hE hd hf => by
    have e0 : (IsVv (.ok ⟨2, 10, false⟩)) (a.eval (.tmp 59)) w2 := ((Od.lc (Φ := IsVv (.ok ⟨2, 10, false⟩)) 11 59) : Od _ _ _ _ _ _ _ _).out v a w2 hE hd hf
    simp only [List.map_toArray, List.map_cons, List.map_nil]
    exact is_v e0 (by decide) (by decide)) ?_
  refine RcG 9 57 false (un (r := .bool false) (Od.lc (Φ := IsV (.bool true)) 12 60) (by rfl) (hr := fun w => by go_simp)) ?_
  refine Rc (pk (Od.lc (Φ := IsV (.bool false)) 9 57) (Od.lc (Φ := IsV (.bool false)) 13 61)) ?_
  refine Rc (mv (Od.lc (Φ := IsV (.bool false)) 14 62)) ?_
  refine RcG 15 63 false (fa (fa_Out0 g5) (Od.lit 5)) ?_
  refine RcG 15 63 false (ldVv O5 (Od.lc (Φ := IsV (.pointer (some ⟨g5, 0, none⟩))) 16 64)) ?_
  refine RcG 15 63 false (cl (en Tryz.func38) rfl rfl (by kernel_rfl) (by kernel_rfl) fun v a w2 hE hd hf => by
    have e0 : (IsVv (.ok ⟨7, 7, true⟩)) (a.eval (.tmp 65)) w2 := ((Od.lc (Φ := IsVv (.ok ⟨7, 7, true⟩)) 17 65) : Od _ _ _ _ _ _ _ _).out v a w2 hE hd hf
    simp only [List.map_toArray, List.map_cons, List.map_nil]
    exact is_v e0 (by decide) (by decide)) ?_
  refine RcG 15 63 false (un (r := .bool false) (Od.lc (Φ := IsV (.bool true)) 18 66) (by rfl) (hr := fun w => by go_simp)) ?_
  refine Rc (pk (Od.lc (Φ := IsV (.bool false)) 15 63) (Od.lc (Φ := IsV (.bool false)) 19 67)) ?_
  refine Rc (mv (Od.lc (Φ := IsV (.bool false)) 20 68)) ?_
  refine RcG 21 69 false (fa (fa_Out2 g5) (Od.lit 5)) ?_
  refine RcG 21 69 false (ldLeft O5 (Od.lc (Φ := IsV (.pointer (some ⟨g5, 12, none⟩))) 22 70)) ?_
  refine RcG 21 69 false (bn (r := .bool false) (Od.lc (Φ := IsV (.int .i64 ((3 : Nat) : Int))) 23 71) Od.con (hr := fun w => by go_simp)) ?_
  refine Rc (pk (Od.lc (Φ := IsV (.bool false)) 21 69) (Od.lc (Φ := IsV (.bool false)) 24 72)) ?_
  refine Rc (mv (Od.lc (Φ := IsV (.bool false)) 25 73)) ?_
  refine RcG 26 74 false (fa (fa_Out0 g6) (Od.lit 6)) ?_
  refine RcG 26 74 false (ldVv O6 (Od.lc (Φ := IsV (.pointer (some ⟨g6, 0, none⟩))) 27 75)) ?_
  refine RcG 26 74 false (cl (en Tryz.func38) rfl rfl (by kernel_rfl) (by kernel_rfl) fun v a w2 hE hd hf => by
    have e0 : (IsVv (.ok ⟨4, 11, false⟩)) (a.eval (.tmp 76)) w2 := ((Od.lc (Φ := IsVv (.ok ⟨4, 11, false⟩)) 28 76) : Od _ _ _ _ _ _ _ _).out v a w2 hE hd hf
    simp only [List.map_toArray, List.map_cons, List.map_nil]
    exact is_v e0 (by decide) (by decide)) ?_
  refine RcG 26 74 false (un (r := .bool false) (Od.lc (Φ := IsV (.bool true)) 29 77) (by rfl) (hr := fun w => by go_simp)) ?_
  refine Rc (pk (Od.lc (Φ := IsV (.bool false)) 26 74) (Od.lc (Φ := IsV (.bool false)) 30 78)) ?_
  exact RgAll.nil
 intro v X23 e1 hΦ _
 simp only [layL, Act.put, uAx, u0x, u1x, Nat.reduceAdd]
 rw [show v 31 = .bool false from hΦ 31 (by decide)]
 clear hΦ
 replace E := E.trans e1
 replace B1 := B1.ext e1
 replace hx1 := IsNe.stb _ _ _ _ e1 hx1
 replace B2 := B2.ext e1
 replace hx2 := IsNe.stb _ _ _ _ e1 hx2
 replace B8 := B8.ext e1
 replace hx8 := IsNe.stb _ _ _ _ e1 hx8
 replace O3 := O3.ext e1
 replace O4 := O4.ext e1
 replace O5 := O5.ext e1
 replace O6 := O6.ext e1
 replace O7 := O7.ext e1
 replace O9 := O9.ext e1
 replace O11 := O11.ext e1
 clear e1
 refine wpList_nil ?_
 go_upto_region 14 with (fail)
 obtain ⟨gn, cn, cN1, cN2⟩ := O9.rd1
 obtain ⟨gi, ci, cI1, cI2⟩ := O11.hy1
 refine rgs 29 [some 80, some 81, some 82, some 83, some 84, some 85, some 86, some 87, some 88, some 89, some 90, some 91, some 92, some 93, some 94, some 95, some 96, some 97, some 98, some 99, some 100, some 101, some 102, some 103, some 104, some 105, some 106, some 107, some 0] [IsV (.pointer (some ⟨g7, 0, none⟩)), IsV (.pointer (some ⟨g7, 10, none⟩)), IsV (.int .i64 440), IsV (.bool true), IsV (.bool true), IsV (.pointer (some ⟨g9, 0, none⟩)), IsV (.pointer (some ⟨g9, 10, none⟩)), IsV (.int .i64 6), IsV (.bool true), IsV (.bool true), IsV (.bool true), IsV (.pointer (some ⟨g9, 11, none⟩)), IsV (.slice (some ⟨gn, 0, none⟩) 1 cn), IsS1 (⟨#[104, 58, 55]⟩), IsV (.bool true), IsV (.bool true), IsV (.bool true), IsV (.pointer (some ⟨g11, 0, none⟩)), IsVv (.ok ⟨12, 12, true⟩), IsV (.bool true), IsV (.bool true), IsV (.bool true), IsV (.pointer (some ⟨g11, 0, none⟩)), IsV (.pointer (some ⟨g11, 9, none⟩)), IsV (.slice (some ⟨gi, 0, none⟩) 1 ci), IsI1 2, IsV (.bool true), IsV (.bool true), IsV (.bool true)] [] ?_ ?_ (hst := by repeat' (first | exact trivial | exact IsV.stb _ | apply IsIf.stb | exact IsNe.stb _ | exact IsVv.stb _ | exact IsOut.stb _ _ _ _ | exact IsNb.stb _ _ | exact IsS1.stb _ | exact IsI1.stb _ | exact IsI2.stb _ _ | exact IsN1.stb _ | exact IsEn.stb _ _ | exact IsShX.stb _ _ | exact IsI.stb _ _ | apply And.intro))
 ·refine Rc (fa (fa_Out0 g7) (Od.lit 7)) ?_
  refine Rc (fa (fa_Vl3 g7) (Od.lc (Φ := IsV (.pointer (some ⟨g7, 0, none⟩))) 0 80)) ?_
  refine Rc (ldErr O7 (Od.lc 1 81)) ?_
  refine Rc (bn (r := .bool true) (Od.lc (Φ := IsV (.int .i64 440)) 2 82) Od.con (hr := fun w => by go_simp)) ?_
  refine Rc (mv (Od.lc (Φ := IsV (.bool true)) 3 83)) ?_
  refine RcG 4 84 true (fa (fa_Out0 g9) (Od.lit 9)) ?_
  refine RcG 4 84 true (fa (fa_Vl3 g9) (Od.lc (Φ := IsV (.pointer (some ⟨g9, 0, none⟩))) 5 85)) ?_
  refine RcG 4 84 true (ldErr O9 (Od.lc 6 86)) ?_
  refine RcG 4 84 true (bn (r := .bool true) (Od.lc (Φ := IsV (.int .i64 6)) 7 87) Od.con (hr := fun w => by go_simp)) ?_
  refine Rc (pk (Od.lc (Φ := IsV (.bool true)) 4 84) (Od.lc (Φ := IsV (.bool true)) 8 88)) ?_
  refine Rc (mv (Od.lc (Φ := IsV (.bool true)) 9 89)) ?_
  refine RcG 10 90 true (fa (fa_Out1 g9) (Od.lit 9)) ?_
  refine RcG 10 90 true (lv (Φ := IsV (.slice (some ⟨gn, 0, none⟩) 1 cn)) _ (fun w' e => ld_as w' _ _ (e.cell cN1)) (Od.lc 11 91) (fun _ _ => rfl)) ?_
  refine RcG 10 90 true bsS1 ?_
  refine RcG 10 90 true (cl (en Tryz.func24) rfl rfl (by kernel_rfl) (by kernel_rfl) fun v a w2 hE hd hf => by
    have e0 : (IsV (.slice (some ⟨gn, 0, none⟩) 1 cn)) (a.eval (.tmp 92)) w2 := ((Od.lc (Φ := IsV (.slice (some ⟨gn, 0, none⟩) 1 cn)) 12 92) : Od _ _ _ _ _ _ _ _).out v a w2 hE hd hf
    have e1 : (IsS1 (⟨#[104, 58, 55]⟩)) (a.eval (.tmp 93)) w2 := ((Od.lc (Φ := IsS1 (⟨#[104, 58, 55]⟩)) 13 93) : Od _ _ _ _ _ _ _ _).out v a w2 hE hd hf
    simp only [List.map_toArray, List.map_cons, List.map_nil]
    rw [(e0 : a.eval (.tmp 92) = _)]
    exact (by obtain ⟨g', hq, hc'⟩ := e1; rw [hq]; exact names_f (hE.cell cN2) hc')) ?_
  refine Rc (pk (Od.lc (Φ := IsV (.bool true)) 10 90) (Od.lc (Φ := IsV (.bool true)) 14 94)) ?_
  refine Rc (mv (Od.lc (Φ := IsV (.bool true)) 15 95)) ?_
  refine RcG 16 96 true (fa (fa_Out0 g11) (Od.lit 11)) ?_
  refine RcG 16 96 true (ldVv O11 (Od.lc (Φ := IsV (.pointer (some ⟨g11, 0, none⟩))) 17 97)) ?_
  refine RcG 16 96 true (cl (en Tryz.func38) rfl rfl (by kernel_rfl) (by kernel_rfl) fun v a w2 hE hd hf => by
    have e0 : (IsVv (.ok ⟨12, 12, true⟩)) (a.eval (.tmp 98)) w2 := ((Od.lc (Φ := IsVv (.ok ⟨12, 12, true⟩)) 18 98) : Od _ _ _ _ _ _ _ _).out v a w2 hE hd hf
    simp only [List.map_toArray, List.map_cons, List.map_nil]
    exact is_v e0 (by decide) (by decide)) ?_
  refine Rc (pk (Od.lc (Φ := IsV (.bool true)) 16 96) (Od.lc (Φ := IsV (.bool true)) 19 99)) ?_
  refine Rc (mv (Od.lc (Φ := IsV (.bool true)) 20 100)) ?_
  refine RcG 21 101 true (fa (fa_Out0 g11) (Od.lit 11)) ?_
  refine RcG 21 101 true (fa (fa_Vl2 g11) (Od.lc (Φ := IsV (.pointer (some ⟨g11, 0, none⟩))) 22 102)) ?_
  refine RcG 21 101 true (lv (Φ := IsV (.slice (some ⟨gi, 0, none⟩) 1 ci)) _ (fun w' e => ld_ai w' _ _ (e.cell cI1)) (Od.lc 23 103) (fun _ _ => rfl)) ?_
  refine RcG 21 101 true bsI1 ?_
  refine RcG 21 101 true (cl (en Tryz.func44) rfl rfl (by kernel_rfl) (by kernel_rfl) fun v a w2 hE hd hf => by
    have e0 : (IsV (.slice (some ⟨gi, 0, none⟩) 1 ci)) (a.eval (.tmp 104)) w2 := ((Od.lc (Φ := IsV (.slice (some ⟨gi, 0, none⟩) 1 ci)) 24 104) : Od _ _ _ _ _ _ _ _).out v a w2 hE hd hf
    have e1 : (IsI1 2) (a.eval (.tmp 105)) w2 := ((Od.lc (Φ := IsI1 2) 25 105) : Od _ _ _ _ _ _ _ _).out v a w2 hE hd hf
    simp only [List.map_toArray, List.map_cons, List.map_nil]
    rw [(e0 : a.eval (.tmp 104) = _)]
    exact (by obtain ⟨g', hq, hc'⟩ := e1; rw [hq]; exact ints_f (hE.cell cI2) hc')) ?_
  refine Rc (pk (Od.lc (Φ := IsV (.bool true)) 21 101) (Od.lc (Φ := IsV (.bool true)) 26 106)) ?_
  refine Rc (mv (Od.lc (Φ := IsV (.bool true)) 27 107)) ?_
  exact RgAll.nil
 intro v X24 e1 hΦ _
 simp only [layL, Act.put, uAx, u0x, u1x, Nat.reduceAdd]
 rw [show v 28 = .bool true from hΦ 28 (by decide)]
 clear hΦ
 replace E := E.trans e1
 replace B1 := B1.ext e1
 replace hx1 := IsNe.stb _ _ _ _ e1 hx1
 replace B2 := B2.ext e1
 replace hx2 := IsNe.stb _ _ _ _ e1 hx2
 replace B8 := B8.ext e1
 replace hx8 := IsNe.stb _ _ _ _ e1 hx8
 replace O3 := O3.ext e1
 replace O4 := O4.ext e1
 replace O5 := O5.ext e1
 replace O6 := O6.ext e1
 replace O7 := O7.ext e1
 replace O9 := O9.ext e1
 replace O11 := O11.ext e1
 clear e1
 refine wpList_nil ?_
 go_wp2_with fail
 go_ret
 exact ⟨_, rfl, E, rfl⟩
end Go.Proofs.YtkeikfekkdplgaaGreatDoor
