/-
 The statement EvalMore: for every argument the law answers true, and the arguments read behind the call as they read before. The listed package variables hold what the program's text lays (the card ties them).
-/
import Derived.Test.YtkeikfekkdplgaaGreatDoorBwd
import Derived.Test.YtkeikfekkdplgaaGreatDoorShf2
import Derived.Test.YtkeikfekkdplgaaGreatDoorExA2
import Derived.Test.YtkeikfekkdplgaaGreatDoorClsMore
import Derived.Test.YtkeikfekkdplgaaGreatDoorTie
import Derived.Test.YtkeikfekkdplgaaGreatDoorCards
import Derived.Lay
import Derived.LaidOnce
import Derived.SevenTiedAt
namespace Go.Proofs.YtkeikfekkdplgaaGreatDoor
open Go Go.RowKit Go.ChangeShapes Go.WideShapes Go.ChangeAt Go.Joins
open Go.Proofs.Tryz
set_option maxRecDepth 100000
theorem evalMore_lifted(os:Os)(started:os.Started)(H:Type)(enc:TypeId×Value->H):
  ReturnsInHanded {} Tryz.checked os 5 .any (λw args=>(Rows.evalMoreSpec.pre enc prog Tryz.f5 [] false w args/\laidMetH prog Rows.evalMoreRow.laid w)/\sizedMet enc prog Tryz.f5 (OpenSpec.ofChange Rows.evalMoreSpec) false w args)
   (Rows.evalMoreSpec.post enc prog Tryz.f5 false true false false):=by
 refine handed_and_shaped (C:=Tryz.checked) (X:=λw _=>laidMetH prog Rows.evalMoreRow.laid w) (λ_ _ _ hh h=>h.of_heap hh) own started za func5
  (ChangeSpec.witness_shaped (enc:=enc) (C:=Tryz.checked) (os:=os) (X:=λw _=>laidMetH prog Rows.evalMoreRow.laid w) false (World.laidAll prog os Rows.evalMoreRow.laid) #[.slice none 0 0,.agg #[.slice none 0 0,.slice none 0 0,.int .u8 0],.agg #[.int .u16 0,.int .u16 0]] 8 (World.laidAll_os _ _ _)
   (World.shaped_of_ZipB za za) za za za
   (by rw[MakeChecks.laidMetH_plain _ _ _ (by kernel_rfl)];exact laidMet_laidAll _ za za)) ?_
 intro W base args ds gs before hval0 hW hL hsh;have hT:=tabM_of hL hsh;have hval:∀(j:Nat) t v,Tryz.f5.params[j]? =some t->args[j]? =some v->Value.okWide prog W .any base t v:=hval0;have hW':=hW;obtain⟨p,q,hA0,hV,rfl,hfz,hnd⟩:=hW;have hA:DataW.TrodAll enc prog W 0 (λ_=>true) true Tryz.f5.params.toList args.toList ds p:=hA0;rw[Tryz.params5]at hA hval;obtain⟨v1,v2,v3,d1,d2,d3,p1,p2,p3,rfl,rfl,rfl,k1,k2,k3⟩:=trodAll_three hA;obtain⟨rfl,rfl⟩:=trodVars_none hV;obtain⟨b1,r1⟩:=bytes_arg za (hval 0 22 v1 rfl rfl) k1;obtain⟨ca,cn,cc,ea,en',ec,g,rfl,hg,b2,b3,r2⟩:=raw43_arg (hval 1 24 v2 rfl rfl) k2;obtain⟨x,y,rfl,hx,hy,r3⟩:=two16_arg za za (hval 2 63 v3 rfl rfl) k3;clear hA0 hval0;refine(More_w hT (hid λw9 e9=>examples_g (hT.ext e9)) b1 b2 b3 hg hx hy).mono λe W' ⟨x,he,hb,hx⟩=>?_
 have hx:x=.bool true:=hx;subst he;subst hx;refine⟨_,rfl,post_of_below (pa:=p1++(p2++p3)) (pv:= []) hW' (λ_ _ _=>trodAll_mk1 (shut_bool underlying4 true)) (λsp hsp=>?_) (λ_ _=>rfl) zd hb (ok_one za rfl (okWide_bool_mk underlying4 _))⟩;rw[Tryz.params5];exact trodAll_mk3 (r1 W' sp hb (λq hq=>hsp q (by simp[hq]))) (r2 W' sp hb (λq hq=>hsp q (by simp[hq]))) (r3 W' sp hb (λq hq=>hsp q (by simp[hq])))
theorem evalMore_row:Rows.EvalMoreSaid:=
 OpenClaim.holds_of_wide 5 Tryz.f5 rfl rfl rfl rfl rfl rfl rfl ⟨rfl,rfl,rfl,rfl,rfl⟩ rfl rfl rfl rfl rfl evalMore_named func5 evalMore_closed
  (of_decide_eq_true za) (by unfold Func.isWrapper;first| (rw[if_pos (by decide +kernel)];kernel_rfl)| (rw[if_neg (by decide +kernel)];exact⟨rfl,rfl⟩))
  (λos started H enc _=>evalMore_lifted os started H enc)
theorem evalMore_holds:Rows.EvalMoreCardSaid:=
 Claim7.holds_tied_plain_at .later [] [.data,.data,.data,.data,.pinned] true Rows.evalMoreCard.stood.harness true
  evalMore_row (λ_ h=>by cases h) za (λ_ h=>by cases h) evalMore_row_tie rfl ⟨rfl,rfl⟩ za rfl
  (fun f fn hf hfn=>by
   obtain rfl:f=5:=Option.some.inj ((show prog.funcNamed "algorist/algoristlaw43.EvalMore" =some 5 by kernel_rfl).symm.trans hf) |>.symm;obtain rfl:fn=Tryz.f5:=(Option.some.inj (func5.symm.trans hfn)).symm;refine⟨by kernel_rfl,λj t ht=>?_⟩;rw[Tryz.params5]at ht
   have h3:t=22\/t=24\/t=63:=by
    rcases j with _|_|_|j
    ·exact .inl (by simpa using ht.symm)
    ·exact .inr (.inl (by simpa using ht.symm))
    ·exact .inr (.inr (by simpa using ht.symm))
    ·simp at ht
   rcases h3 with rfl|rfl|rfl
   ·exact(show prog.wantsStandIn 22=false by kernel_rfl)
   ·exact(show prog.wantsStandIn 24=false by kernel_rfl)
   ·exact(show prog.wantsStandIn 63=false by kernel_rfl))
  za
#print axioms evalMore_holds
end Go.Proofs.YtkeikfekkdplgaaGreatDoor
