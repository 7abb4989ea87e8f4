/-
  The statement NotebookMatchesReference: for every argument the law answers true, and the arguments read behind the call as they read before. The listed package variables hold what the program's text lays (the card ties them). (Printed by wip/gen/nlaw.py.)
-/
import Derived.Test.YtenhciieboegbaaGreatDoorNr1
import Derived.Test.YtenhciieboegbaaGreatDoorNmm
import Derived.Test.YtenhciieboegbaaGreatDoorNra
import Derived.Test.YtenhciieboegbaaGreatDoorNcMatchesReference
import Derived.Test.YtenhciieboegbaaGreatDoorTie
import Derived.Test.YtenhciieboegbaaGreatDoorCards
import Derived.Lay
import Derived.LaidOnce
import Derived.SevenTiedAt
namespace Go.Proofs.YtenhciieboegbaaGreatDoor
open Go Go.RowKit Go.ChangeShapes Go.WideShapes Go.ChangeAt Go.Joins
set_option maxRecDepth 100000 in
theorem notebookMatchesReference_lifted(os:Os)(started:os.Started)(H:Type)(enc:TypeId×Value→H):
    ReturnsInHanded {} Tryz.checked os 3 .any (λw args=>(Rows.notebookMatchesReferenceSpec.pre enc Tryz.prog Tryz.f3 [] false w args∧laidMetH Tryz.prog Rows.notebookMatchesReferenceRow.laid w)∧sizedMet enc Tryz.prog Tryz.f3 (OpenSpec.ofChange Rows.notebookMatchesReferenceSpec) false w args)
      (Rows.notebookMatchesReferenceSpec.post enc Tryz.prog Tryz.f3 false true false false):=by
  refine handed_and_shaped (C:=Tryz.checked) (X:=λw _=>laidMetH Tryz.prog Rows.notebookMatchesReferenceRow.laid w) (λ_ _ _ hh h=>h.of_heap hh) own started (by kernel_rfl) Tryz.func3
    (ChangeSpec.witness_shaped (enc:=enc) (C:=Tryz.checked) (os:=os) (X:=λw _=>laidMetH Tryz.prog Rows.notebookMatchesReferenceRow.laid w) false (World.laidAll Tryz.prog os Rows.notebookMatchesReferenceRow.laid) #[.slice none 0 0,.string ⟨#[]⟩,.agg #[.int .u8 0,.int .u8 0,.int .u8 0]] 8 (World.laidAll_os _ _ _)
      (World.shaped_of_ZipB (by kernel_rfl) (by kernel_rfl)) (by kernel_rfl) (by kernel_rfl) (by kernel_rfl)
      (by rw[MakeChecks.laidMetH_plain _ _ _ (by kernel_rfl)];exact laidMet_laidAll _ (by kernel_rfl) (by kernel_rfl))) ?_
  intro W base args ds gs before hval0 hW hL hsh;have hT:=tabM_of (show laidMetH Tryz.prog Rows.notebookRoundsRow.laid W from hL) hsh;have hval:∀(j:Nat) t v,Tryz.f3.params[j]? =some t→args[j]? =some v→Value.okWide Tryz.prog W .any base t v:=hval0;have hW':=hW;obtain⟨p,q,hA0,hV,rfl,hfz,hnd⟩:=hW;have hA:DataW.TrodAll enc Tryz.prog W 0 (λ_=>true) true Tryz.f3.params.toList args.toList ds p:=hA0;rw[Tryz.params3]at hA hval;obtain⟨v1,v2,v3,d1,d2,d3,p1,p2,p3,rfl,rfl,rfl,k1,k2,k3⟩:=trodAll_three hA;obtain⟨rfl,rfl⟩:=trodVars_none hV;obtain⟨b1,r1⟩:=bytess_arg (by kernel_rfl) (hval 0 22 v1 rfl rfl) k1;obtain⟨s2,rfl,rfl,rfl,hw2⟩:=Go.ChangeMaps.open_string Tryz.underlying9 (hval 1 9 v2 rfl rfl) k2;obtain⟨n30,n31,n32,rfl,h30,h31,h32,rfl,r3⟩:=arr3_arg (hval 2 23 v3 rfl rfl) k3;clear hA0 hval0;refine((Matches_w hT b1 (s:=s2.data.toList) (by simp;unfold maxLen at hw2;omega) h30 h31 h32)).mono λe W' ⟨x,he,hb,hx⟩=>?_
  have hx:x=.bool true:=hx;subst he;subst hx;refine⟨_,rfl,post_of_below (pa:=p1++([]++ [])) (pv:= []) hW' (λ_ _ _=>trodAll_mk1 (shut_bool Tryz.underlying4 true)) (λsp hsp=>?_) (λ_ _=>rfl) (by simp) hb (ok_one (by kernel_rfl) rfl (okWide_bool_mk Tryz.underlying4 _))⟩;rw[Tryz.params3];exact trodAll_mk3 (r1 W' sp hb (λq hq=>hsp q (by simp[hq]))) (Go.ChangeMaps.shut_string Tryz.underlying9 hw2) (r3 W' _ sp _)
theorem notebookMatchesReference_row:Rows.NotebookMatchesReferenceSaid:=
  OpenClaim.holds_of_wide 3 Tryz.f3 rfl rfl rfl rfl rfl rfl rfl ⟨rfl,rfl,rfl,rfl,rfl⟩ rfl rfl rfl rfl rfl notebookMatchesReference_named Tryz.func3 notebookMatchesReference_closed
    (of_decide_eq_true (by kernel_rfl)) (by unfold Func.isWrapper;first| (rw[if_pos (by decide +kernel)];kernel_rfl)| (rw[if_neg (by decide +kernel)];exact⟨rfl,rfl⟩))
    (λos started H enc _=>notebookMatchesReference_lifted os started H enc)
set_option maxRecDepth 100000 in
theorem notebookMatchesReference_holds:Rows.NotebookMatchesReferenceCardSaid:=
  Claim7.holds_tied_plain_at .later [] [.data,.data,.data,.data,.pinned] true Rows.notebookMatchesReferenceCard.stood.harness true
    notebookMatchesReference_row (λ_ h=>by cases h) (by kernel_rfl) (λ_ h=>by cases h) notebookMatchesReference_row_tie rfl ⟨rfl,rfl⟩ (by kernel_rfl) rfl
    (fun f fn hf hfn=>by
      obtain rfl:f=3:=Option.some.inj ((show Tryz.prog.funcNamed "algorist/algoristlaw42.NotebookMatchesReference" =some 3 by kernel_rfl).symm.trans hf) |>.symm;obtain rfl:fn=Tryz.f3:=(Option.some.inj (Tryz.func3.symm.trans hfn)).symm;refine⟨by kernel_rfl,λj t ht=>?_⟩;rw[Tryz.params3]at ht
      have h3:t=22∨t=9∨t=23:=by
        rcases j with _|_|_|j
        ·exact .inl (by simpa using ht.symm)
        ·exact .inr (.inl (by simpa using ht.symm))
        ·exact .inr (.inr (by simpa using ht.symm))
        ·simp at ht
      rcases h3 with rfl|rfl|rfl
      ·exact(show Tryz.prog.wantsStandIn 22=false by kernel_rfl)
      ·exact(show Tryz.prog.wantsStandIn 9=false by kernel_rfl)
      ·exact(show Tryz.prog.wantsStandIn 23=false by kernel_rfl))
    (by kernel_rfl)
#print axioms notebookMatchesReference_holds
end Go.Proofs.YtenhciieboegbaaGreatDoor
