/-
  The statement NotebookJoins: for every argument the law answers true, and the arguments read behind the call as they read before. The listed package variables hold what the program's text lays (the card ties them). (Printed by wip/gen/nlaw.py.)
-/
import Derived.Test.YtenhciieboegbaaGreatDoorRws
import Derived.Test.YtenhciieboegbaaGreatDoorNjo
import Derived.Test.YtenhciieboegbaaGreatDoorNcJoins
import Derived.Test.YtenhciieboegbaaGreatDoorTie
import Derived.Test.YtenhciieboegbaaGreatDoorCards
import Derived.Lay
import Derived.LaidOnce
import Derived.SevenTiedAt
namespace Go.Proofs.YtenhciieboegbaaGreatDoor
open Go Go.RowKit Go.ChangeShapes Go.WideShapes Go.ChangeAt Go.Joins
set_option maxRecDepth 100000 in
theorem notebookJoins_lifted (os : Os) (started : os.Started) (H : Type) (enc : TypeId × Value → H) :
    ReturnsInHanded {} Tryz.checked os 7 .any (fun w args => (Rows.notebookJoinsSpec.pre enc Tryz.prog Tryz.f7 [] false w args ∧ laidMetH Tryz.prog Rows.notebookJoinsRow.laid w) ∧ sizedMet enc Tryz.prog Tryz.f7 (OpenSpec.ofChange Rows.notebookJoinsSpec) false w args)
      (Rows.notebookJoinsSpec.post enc Tryz.prog Tryz.f7 false true false false) := by
  refine handed_and_shaped (C := Tryz.checked) (X := fun w _ => laidMetH Tryz.prog Rows.notebookJoinsRow.laid w) (fun _ _ _ hh h => h.of_heap hh) own started (by kernel_rfl) Tryz.func7
    (ChangeSpec.witness_shaped (enc := enc) (C := Tryz.checked) (os := os) (X := fun w _ => laidMetH Tryz.prog Rows.notebookJoinsRow.laid w) false (World.laidAll Tryz.prog os Rows.notebookJoinsRow.laid) #[.slice none 0 0, .slice none 0 0] 8 (World.laidAll_os _ _ _)
      (World.shaped_of_ZipB (by kernel_rfl) (by kernel_rfl)) (by kernel_rfl) (by kernel_rfl) (by kernel_rfl)
      (by rw [MakeChecks.laidMetH_plain _ _ _ (by kernel_rfl)]; exact laidMet_laidAll _ (by kernel_rfl) (by kernel_rfl))) ?_
  intro W base args ds gs before hval0 hW hL hsh
  have hT := tabM_of (show laidMetH Tryz.prog Rows.notebookRoundsRow.laid W from hL) hsh
  have hval : ∀ (j : Nat) t v, Tryz.f7.params[j]? = some t → args[j]? = some v → Value.okWide Tryz.prog W .any base t v := hval0
  have hW' := hW
  obtain ⟨p, q, hA0, hV, rfl, hfz, hnd⟩ := hW
  have hA : DataW.TrodAll enc Tryz.prog W 0 (fun _ => true) true Tryz.f7.params.toList args.toList ds p := hA0
  rw [Tryz.params7] at hA hval
  obtain ⟨v1, v2, d1, d2, p1, p2, rfl, rfl, rfl, k1, k2⟩ := trodAll_two hA
  obtain ⟨rfl, rfl⟩ := trodVars_none hV
  obtain ⟨b1, r1⟩ := bytess_arg (by kernel_rfl) (hval 0 22 v1 rfl rfl) k1
  obtain ⟨b2, r2⟩ := bytess_arg (by kernel_rfl) (hval 1 22 v2 rfl rfl) k2
  clear hA0 hval0
  refine (Joins_w hT b1 b2).mono fun e W' ⟨x, he, hb, hx⟩ => ?_
  have hx : x = .bool true := hx
  subst he; subst hx
  refine ⟨_, rfl, post_of_below (pa := p1 ++ p2) (pv := []) hW' (fun _ _ _ => trodAll_mk1 (shut_bool Tryz.underlying4 true)) (fun sp hsp => ?_) (fun _ _ => rfl) (by simp) hb (ok_one (by kernel_rfl) rfl (okWide_bool_mk Tryz.underlying4 _))⟩
  rw [Tryz.params7]
  exact trodAll_mk2 (r1 W' sp hb (fun q hq => hsp q (by simp [hq]))) (r2 W' sp hb (fun q hq => hsp q (by simp [hq])))

theorem notebookJoins_row : Rows.NotebookJoinsSaid :=
  OpenClaim.holds_of_wide 7 Tryz.f7 rfl rfl rfl rfl rfl rfl rfl ⟨rfl, rfl, rfl, rfl, rfl⟩ rfl rfl rfl rfl rfl notebookJoins_named Tryz.func7 notebookJoins_closed
    (of_decide_eq_true (by kernel_rfl)) (by unfold Func.isWrapper; first | (rw [if_pos (by decide +kernel)]; kernel_rfl) | (rw [if_neg (by decide +kernel)]; exact ⟨rfl, rfl⟩))
    (fun os started H enc _ => notebookJoins_lifted os started H enc)

set_option maxRecDepth 100000 in
/-- The tied card. -/
theorem notebookJoins_holds : Rows.NotebookJoinsCardSaid :=
  Claim7.holds_tied_plain_at .later [] [.data, .data, .data, .data, .pinned] true Rows.notebookJoinsCard.stood.harness true
    notebookJoins_row (fun _ h => by cases h) (by kernel_rfl) (fun _ h => by cases h) notebookJoins_row_tie rfl ⟨rfl, rfl⟩ (by kernel_rfl) rfl
    (fun f fn hf hfn => by
      obtain rfl : f = 7 := Option.some.inj ((show Tryz.prog.funcNamed "algorist/algoristlaw42.NotebookJoins" = some 7 by kernel_rfl).symm.trans hf) |>.symm
      obtain rfl : fn = Tryz.f7 := (Option.some.inj (Tryz.func7.symm.trans hfn)).symm
      refine ⟨by kernel_rfl, fun j t ht => ?_⟩
      rw [Tryz.params7] at ht
      have h3 : t = 22 := by
        rcases j with _ | _ | j
        · exact (by simpa using ht.symm)
        · exact (by simpa using ht.symm)
        · simp at ht
      subst h3
      exact (show Tryz.prog.wantsStandIn 22 = false by kernel_rfl))
    (by kernel_rfl)
#print axioms notebookJoins_holds
end Go.Proofs.YtenhciieboegbaaGreatDoor
