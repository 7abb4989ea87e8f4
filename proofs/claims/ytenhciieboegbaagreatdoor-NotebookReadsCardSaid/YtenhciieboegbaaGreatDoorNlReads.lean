/-
  The statement NotebookReads: for every argument the law answers true, and the arguments read behind the call as they read before. The listed package variables hold what the program's text lays (the card ties them). (Printed by wip/gen/nlaw.py.)
-/
import Derived.Test.YtenhciieboegbaaGreatDoorNr1
import Derived.Test.YtenhciieboegbaaGreatDoorNqd
import Derived.Test.YtenhciieboegbaaGreatDoorNrw
import Derived.Test.YtenhciieboegbaaGreatDoorNcReads
import Derived.Test.YtenhciieboegbaaGreatDoorTie
import Derived.Test.YtenhciieboegbaaGreatDoorCards
import Derived.Lay
import Derived.LaidOnce
import Derived.SevenTiedAt
namespace Go.Proofs.YtenhciieboegbaaGreatDoor
open Go Go.RowKit Go.ChangeShapes Go.WideShapes Go.ChangeAt Go.Joins
open Go.Proofs.Tryz
set_option maxRecDepth 100000
theorem notebookReads_lifted(os:Os)(started:os.Started)(H:Type)(enc:TypeId×Value->H):
    ReturnsInHanded {} Tryz.checked os 5 .any (λw args=>(Rows.notebookReadsSpec.pre enc prog Tryz.f5 [] false w args/\laidMetH prog Rows.notebookReadsRow.laid w)/\sizedMet enc prog Tryz.f5 (OpenSpec.ofChange Rows.notebookReadsSpec) false w args)
      (Rows.notebookReadsSpec.post enc prog Tryz.f5 false true false false):=by
  refine handed_and_shaped (C:=Tryz.checked) (X:=λw _=>laidMetH prog Rows.notebookReadsRow.laid w) (λ_ _ _ hh h=>h.of_heap hh) own started zc func5
    (ChangeSpec.witness_shaped (enc:=enc) (C:=Tryz.checked) (os:=os) (X:=λw _=>laidMetH prog Rows.notebookReadsRow.laid w) false (World.laidAll prog os Rows.notebookReadsRow.laid) #[.slice none 0 0,.string ⟨#[]⟩,.agg #[.int .u16 0,.int .u16 0,.int .u16 0]] 8 (World.laidAll_os _ _ _)
      (World.shaped_of_ZipB zc zc) zc zc zc
      (by rw[MakeChecks.laidMetH_plain _ _ _ (by kernel_rfl)];exact laidMet_laidAll _ zc zc)) ?_
  intro W base args ds gs before hval0 hW hL hsh;have hT:=tabM_of (show laidMetH prog Rows.notebookRoundsRow.laid W from hL) hsh;have hval:∀(j:Nat) t v,Tryz.f5.params[j]? =some t->args[j]? =some v->Value.okWide prog W .any base t v:=hval0;have hW':=hW;obtain⟨p,q,hA0,hV,rfl,hfz,hnd⟩:=hW;have hA:DataW.TrodAll enc prog W 0 (λ_=>true) true Tryz.f5.params.toList args.toList ds p:=hA0;rw[Tryz.params5]at hA hval;obtain⟨v1,v2,v3,d1,d2,d3,p1,p2,p3,rfl,rfl,rfl,k1,k2,k3⟩:=trodAll_three hA;obtain⟨rfl,rfl⟩:=trodVars_none hV;obtain⟨b1,r1⟩:=bytess_arg zc (hval 0 22 v1 rfl rfl) k1;obtain⟨s2,rfl,rfl,rfl,hw2⟩:=Go.ChangeMaps.open_string underlying9 (hval 1 9 v2 rfl rfl) k2;obtain⟨n30,n31,n32,rfl,h30,h31,h32,rfl,r3⟩:=arr3w_arg (hval 2 51 v3 rfl rfl) k3;clear hA0 hval0;refine(Reads_w hT b1 (t:=s2.data.toList) (by simp;unfold maxLen at hw2;omega) h30 h31 h32).mono λe W' ⟨x,he,hb,hx⟩=>?_
  have hx:x=.bool true:=hx;subst he;subst hx;refine⟨_,rfl,post_of_below (pa:=p1++([]++ [])) (pv:= []) hW' (λ_ _ _=>trodAll_mk1 (shut_bool underlying4 true)) (λsp hsp=>?_) (λ_ _=>rfl) zo hb (ok_one zc rfl (okWide_bool_mk underlying4 _))⟩;rw[Tryz.params5];exact trodAll_mk3 (r1 W' sp hb (λq hq=>hsp q (by simp[hq]))) (Go.ChangeMaps.shut_string underlying9 hw2) (r3 W' _ sp _)
theorem notebookReads_row:Rows.NotebookReadsSaid:=
  OpenClaim.holds_of_wide 5 Tryz.f5 rfl rfl rfl rfl rfl rfl rfl ⟨rfl,rfl,rfl,rfl,rfl⟩ rfl rfl rfl rfl rfl notebookReads_named func5 notebookReads_closed
    (of_decide_eq_true zc) (by unfold Func.isWrapper;first| (rw[if_pos (by decide +kernel)];kernel_rfl)| (rw[if_neg (by decide +kernel)];exact⟨rfl,rfl⟩))
    (λos started H enc _=>notebookReads_lifted os started H enc)
theorem notebookReads_holds:Rows.NotebookReadsCardSaid:=
  Claim7.holds_tied_plain_at .later [] [.data,.data,.data,.data,.pinned] true Rows.notebookReadsCard.stood.harness true
    notebookReads_row (λ_ h=>by cases h) zc (λ_ h=>by cases h) notebookReads_row_tie rfl ⟨rfl,rfl⟩ zc rfl
    (fun f fn hf hfn=>by
      obtain rfl:f=5:=Option.some.inj ((show prog.funcNamed "algorist/algoristlaw42.NotebookReads" =some 5 by kernel_rfl).symm.trans hf) |>.symm;obtain rfl:fn=Tryz.f5:=(Option.some.inj (func5.symm.trans hfn)).symm;refine⟨by kernel_rfl,λj t ht=>?_⟩;rw[Tryz.params5]at ht
      have h3:t=22\/t=9\/t=51:=by
        rcases j with _|_|_|j
        ·exact .inl (by simpa using ht.symm)
        ·exact .inr (.inl (by simpa using ht.symm))
        ·exact .inr (.inr (by simpa using ht.symm))
        ·simp at ht
      rcases h3 with rfl|rfl|rfl
      ·exact(show prog.wantsStandIn 22=false by kernel_rfl)
      ·exact(show prog.wantsStandIn 9=false by kernel_rfl)
      ·exact(show prog.wantsStandIn 51=false by kernel_rfl))
    zc
#print axioms notebookReads_holds
end Go.Proofs.YtenhciieboegbaaGreatDoor
