/-
  The statement NotebookLimits: for every argument the law answers true, and the arguments read behind the call as they read before. The listed package variables hold what the program's text lays (the card ties them). (Printed by wip/gen/nlaw.py.)
-/
import Derived.Test.YtenhciieboegbaaGreatDoorNr1
import Derived.Test.YtenhciieboegbaaGreatDoorNli
import Derived.Test.YtenhciieboegbaaGreatDoorNcLimits
import Derived.Test.YtenhciieboegbaaGreatDoorTie
import Derived.Test.YtenhciieboegbaaGreatDoorCards
import Derived.Lay
import Derived.LaidOnce
import Derived.SevenTiedAt
namespace Go.Proofs.YtenhciieboegbaaGreatDoor
open Go Go.RowKit Go.ChangeShapes Go.WideShapes Go.ChangeAt Go.Joins
set_option maxRecDepth 100000 in
theorem notebookLimits_lifted (os : Os) (started : os.Started) (H : Type) (enc : TypeId × Value → H) :
    ReturnsInHanded {} Tryz.checked os 4 .any (fun w args => (Rows.notebookLimitsSpec.pre enc Tryz.prog Tryz.f4 [] false w args ∧ laidMetH Tryz.prog Rows.notebookLimitsRow.laid w) ∧ sizedMet enc Tryz.prog Tryz.f4 (OpenSpec.ofChange Rows.notebookLimitsSpec) false w args)
      (Rows.notebookLimitsSpec.post enc Tryz.prog Tryz.f4 false true false false) := by
  refine handed_and_shaped (C := Tryz.checked) (X := fun w _ => laidMetH Tryz.prog Rows.notebookLimitsRow.laid w) (fun _ _ _ hh h => h.of_heap hh) own started (by kernel_rfl) Tryz.func4
    (ChangeSpec.witness_shaped (enc := enc) (C := Tryz.checked) (os := os) (X := fun w _ => laidMetH Tryz.prog Rows.notebookLimitsRow.laid w) false (World.laidAll Tryz.prog os Rows.notebookLimitsRow.laid) #[.int .u8 0, .bool false, .int .u8 0] 8 (World.laidAll_os _ _ _)
      (World.shaped_of_ZipB (by kernel_rfl) (by kernel_rfl)) (by kernel_rfl) (by kernel_rfl) (by kernel_rfl)
      (by rw [MakeChecks.laidMetH_plain _ _ _ (by kernel_rfl)]; exact laidMet_laidAll _ (by kernel_rfl) (by kernel_rfl))) ?_
  intro W base args ds gs before hval0 hW hL hsh
  have hT := tabM_of (show laidMetH Tryz.prog Rows.notebookRoundsRow.laid W from hL) hsh
  have hval : ∀ (j : Nat) t v, Tryz.f4.params[j]? = some t → args[j]? = some v → Value.okWide Tryz.prog W .any base t v := hval0
  have hW' := hW
  obtain ⟨p, q, hA0, hV, rfl, hfz, hnd⟩ := hW
  have hA : DataW.TrodAll enc Tryz.prog W 0 (fun _ => true) true Tryz.f4.params.toList args.toList ds p := hA0
  rw [Tryz.params4] at hA hval
  obtain ⟨v1, v2, v3, d1, d2, d3, p1, p2, p3, rfl, rfl, rfl, k1, k2, k3⟩ := trodAll_three hA
  obtain ⟨rfl, rfl⟩ := trodVars_none hV
  obtain ⟨m1, rfl, rfl, rfl, hw1⟩ := open_int Tryz.underlying5 (hval 0 5 v1 rfl rfl) k1
  obtain ⟨n1, rfl, hu1⟩ : ∃ n : Nat, m1 = (n : Int) ∧ n ≤ 255 := by
    have h9 : (decide (0 ≤ m1) && decide (m1 ≤ 255)) = true := hw1
    simp only [Bool.and_eq_true, decide_eq_true_eq] at h9
    exact ⟨m1.toNat, by omega, by omega⟩
  obtain ⟨o2, rfl, rfl, rfl⟩ := open_bool Tryz.underlying4 (hval 1 4 v2 rfl rfl) k2
  obtain ⟨m3, rfl, rfl, rfl, hw3⟩ := open_int Tryz.underlying5 (hval 2 5 v3 rfl rfl) k3
  obtain ⟨n3, rfl, hu3⟩ : ∃ n : Nat, m3 = (n : Int) ∧ n ≤ 255 := by
    have h9 : (decide (0 ≤ m3) && decide (m3 ≤ 255)) = true := hw3
    simp only [Bool.and_eq_true, decide_eq_true_eq] at h9
    exact ⟨m3.toNat, by omega, by omega⟩
  clear hA0 hval0
  refine (Limits_w hT hu1 hu3).mono fun e W' ⟨x, he, hb, hx⟩ => ?_
  have hx : x = .bool true := hx
  subst he; subst hx
  refine ⟨_, rfl, post_of_below (pa := [] ++ ([] ++ [])) (pv := []) hW' (fun _ _ _ => trodAll_mk1 (shut_bool Tryz.underlying4 true)) (fun sp hsp => ?_) (fun _ _ => rfl) (by simp) hb (ok_one (by kernel_rfl) rfl (okWide_bool_mk Tryz.underlying4 _))⟩
  rw [Tryz.params4]
  exact trodAll_mk3 (shut_int Tryz.underlying5 hw1) (shut_bool Tryz.underlying4 o2) (shut_int Tryz.underlying5 hw3)

theorem notebookLimits_row : Rows.NotebookLimitsSaid :=
  OpenClaim.holds_of_wide 4 Tryz.f4 rfl rfl rfl rfl rfl rfl rfl ⟨rfl, rfl, rfl, rfl, rfl⟩ rfl rfl rfl rfl rfl notebookLimits_named Tryz.func4 notebookLimits_closed
    (of_decide_eq_true (by kernel_rfl)) (by unfold Func.isWrapper; first | (rw [if_pos (by decide +kernel)]; kernel_rfl) | (rw [if_neg (by decide +kernel)]; exact ⟨rfl, rfl⟩))
    (fun os started H enc _ => notebookLimits_lifted os started H enc)

set_option maxRecDepth 100000 in
/-- The tied card. -/
theorem notebookLimits_holds : Rows.NotebookLimitsCardSaid :=
  Claim7.holds_tied_plain_at .later [] [.data, .data, .data, .data, .pinned] true Rows.notebookLimitsCard.stood.harness true
    notebookLimits_row (fun _ h => by cases h) (by kernel_rfl) (fun _ h => by cases h) notebookLimits_row_tie rfl ⟨rfl, rfl⟩ (by kernel_rfl) rfl
    (fun f fn hf hfn => by
      obtain rfl : f = 4 := Option.some.inj ((show Tryz.prog.funcNamed "algorist/algoristlaw42.NotebookLimits" = some 4 by kernel_rfl).symm.trans hf) |>.symm
      obtain rfl : fn = Tryz.f4 := (Option.some.inj (Tryz.func4.symm.trans hfn)).symm
      refine ⟨by kernel_rfl, fun j t ht => ?_⟩
      rw [Tryz.params4] at ht
      have h3 : t = 5 ∨ t = 4 := by
        rcases j with _ | _ | _ | j
        · exact .inl (by simpa using ht.symm)
        · exact .inr (by simpa using ht.symm)
        · exact .inl (by simpa using ht.symm)
        · simp at ht
      rcases h3 with rfl | rfl
      · exact (show Tryz.prog.wantsStandIn 5 = false by kernel_rfl)
      · exact (show Tryz.prog.wantsStandIn 4 = false by kernel_rfl))
    (by kernel_rfl)
#print axioms notebookLimits_holds
end Go.Proofs.YtenhciieboegbaaGreatDoor
