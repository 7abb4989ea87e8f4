/-
 The statement EvalSearches: for every argument the law answers true, and the arguments read behind the call as they read before. The listed package variables hold what the program's text lays (the card ties them).
-/
import Derived.Test.YtkeikfekkdplgaaGreatDoorReadB
import Derived.Test.YtkeikfekkdplgaaGreatDoorEv28
import Derived.Test.YtkeikfekkdplgaaGreatDoorTie
import Derived.Test.YtkeikfekkdplgaaGreatDoorCards
import Derived.Lay
import Derived.LaidOnce
import Derived.SevenTiedAt
namespace Go.Proofs.YtkeikfekkdplgaaGreatDoor
open Go Go.RowKit Go.ChangeShapes Go.WideShapes Go.ChangeAt

set_option maxRecDepth 100000 in
theorem evalSearches_lifted (os : Os) (started : os.Started) (H : Type) (enc : TypeId × Value → H) :
  ReturnsInHanded {} Tryz.checked os 9 .any (fun w args => (Rows.evalSearchesSpec.pre enc Tryz.prog Tryz.f9 [] false w args ∧ laidMetH Tryz.prog Rows.evalSearchesRow.laid w) ∧ sizedMet enc Tryz.prog Tryz.f9 (OpenSpec.ofChange Rows.evalSearchesSpec) false w args)
   (Rows.evalSearchesSpec.post enc Tryz.prog Tryz.f9 false true false false) := by
 refine returnsInHanded_of_change_and (C := Tryz.checked) (X := fun w _ => laidMetH Tryz.prog Rows.evalSearchesRow.laid w) (fun _ _ _ hh h => h.of_heap hh) own started (by kernel_rfl) Tryz.func9
  (ChangeSpec.witness_shaped (enc := enc) (C := Tryz.checked) (os := os) (X := fun w _ => laidMetH Tryz.prog Rows.evalSearchesRow.laid w) false (World.laidAll Tryz.prog os Rows.evalSearchesRow.laid) #[.int .u8 0, .int .u8 0, .int .u8 0] 8 (World.laidAll_os _ _ _)
   (World.shaped_of_ZipB (by kernel_rfl) (by kernel_rfl)) (by kernel_rfl) (by kernel_rfl) (by kernel_rfl)
   (by rw [MakeChecks.laidMetH_plain _ _ _ (by kernel_rfl)]; exact laidMet_laidAll _ (by kernel_rfl) (by kernel_rfl))) ?_
 intro W base args ds gs before hval0 hW _ _ hL _
 have hval : ∀ (j : Nat) t v, Tryz.f9.params[j]? = some t → args[j]? = some v → Value.okWide Tryz.prog W .any base t v := hval0
 have hW' := hW
 obtain ⟨p, q, hA0, hV, rfl, hfz, hnd⟩ := hW
 have hA : DataW.TrodAll enc Tryz.prog W 0 (fun _ => true) true Tryz.f9.params.toList args.toList ds p := hA0
 rw [Tryz.params9] at hA hval
 obtain ⟨v1, v2, v3, d1, d2, d3, p1, p2, p3, rfl, rfl, rfl, k1, k2, k3⟩ := trodAll_three hA
 obtain ⟨rfl, rfl⟩ := trodVars_none hV
 obtain ⟨m1, rfl, rfl, rfl, hw1⟩ := open_int Tryz.underlying5 (hval 0 5 v1 rfl rfl) k1
 obtain ⟨y1, z1⟩ := wf_u8 _ hw1
 obtain ⟨m1, rfl⟩ := Int.eq_ofNat_of_zero_le y1
 obtain ⟨m2, rfl, rfl, rfl, hw2⟩ := open_int Tryz.underlying5 (hval 1 5 v2 rfl rfl) k2
 obtain ⟨y2, z2⟩ := wf_u8 _ hw2
 obtain ⟨m2, rfl⟩ := Int.eq_ofNat_of_zero_le y2
 obtain ⟨m3, rfl, rfl, rfl, hw3⟩ := open_int Tryz.underlying5 (hval 2 5 v3 rfl rfl) k3
 obtain ⟨y3, z3⟩ := wf_u8 _ hw3
 obtain ⟨m3, rfl⟩ := Int.eq_ofNat_of_zero_le y3
 clear hA0 hval0
 refine (Searches_w W m1 m2 m3 (by omega) (by omega) (by omega) (hid fun w' _ => examples_f w')).mono fun e W' ⟨x, he, hb, hx⟩ => ?_
 have hx : x = .bool true := hx
 subst he; subst hx
 refine ⟨_, rfl, post_of_below (pa := [] ++ ([] ++ [])) (pv := []) hW' (fun _ _ _ => trodAll_mk1 (shut_bool Tryz.underlying4 true)) (fun sp hsp => ?_) (fun _ _ => rfl) (by simp) hb (ok_one (by kernel_rfl) rfl (okWide_bool_mk Tryz.underlying4 _))⟩
 rw [Tryz.params9]
 exact trodAll_mk3 (shut_int Tryz.underlying5 hw1) (shut_int Tryz.underlying5 hw2) (shut_int Tryz.underlying5 hw3)

theorem evalSearches_row : Rows.EvalSearchesSaid :=
 OpenClaim.holds_of_wide 9 Tryz.f9 rfl rfl rfl rfl rfl rfl rfl ⟨rfl, rfl, rfl, rfl, rfl⟩ rfl rfl rfl rfl rfl (by kernel_rfl) Tryz.func9 (by kernel_rfl)
  (of_decide_eq_true (by kernel_rfl)) (by unfold Func.isWrapper; first | (rw [if_pos (by decide +kernel)]; kernel_rfl) | (rw [if_neg (by decide +kernel)]; exact ⟨rfl, rfl⟩))
  (fun os started H enc _ => evalSearches_lifted os started H enc)

set_option maxRecDepth 100000 in
/-- The tied card. -/
theorem evalSearches_holds : Rows.EvalSearchesCardSaid :=
 Claim7.holds_tied_plain_at .later [] [.data, .data, .data, .data, .pinned] true Rows.evalSearchesCard.stood.harness true
  evalSearches_row (fun _ h => by cases h) (by kernel_rfl) (fun _ h => by cases h) evalSearches_row_tie rfl ⟨rfl, rfl⟩ (by kernel_rfl) rfl
  (fun f fn hf hfn => by
   obtain rfl : f = 9 := Option.some.inj ((show Tryz.prog.funcNamed "algorist/algoristlaw43.EvalSearches" = some 9 by kernel_rfl).symm.trans hf) |>.symm
   obtain rfl : fn = Tryz.f9 := (Option.some.inj (Tryz.func9.symm.trans hfn)).symm
   refine ⟨by kernel_rfl, fun j t ht => ?_⟩
   rw [Tryz.params9] at ht
   have h3 : t = 5 := by
    rcases j with _ | _ | _ | j
    ·simpa using ht.symm
    ·simpa using ht.symm
    ·simpa using ht.symm
    ·simp at ht
   subst h3
   exact (show Tryz.prog.wantsStandIn 5 = false by kernel_rfl))
  (by kernel_rfl)
#print axioms evalSearches_holds
end Go.Proofs.YtkeikfekkdplgaaGreatDoor
