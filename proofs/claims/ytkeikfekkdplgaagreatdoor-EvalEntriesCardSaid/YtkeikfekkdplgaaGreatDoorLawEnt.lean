/-
 The statement EvalEntries: for every argument the law answers true, and the arguments read behind the call as they read before. The listed package variables hold what the program's text lays (the card ties them).
-/
import Derived.Test.YtkeikfekkdplgaaGreatDoorTre
import Derived.Test.YtkeikfekkdplgaaGreatDoorEntP
import Derived.Test.YtkeikfekkdplgaaGreatDoorClsEntW
import Derived.Test.YtkeikfekkdplgaaGreatDoorAdd0
import Derived.Test.YtkeikfekkdplgaaGreatDoorTie
import Derived.Test.YtkeikfekkdplgaaGreatDoorCards
import Derived.Lay
import Derived.LaidOnce
import Derived.SevenTiedAt
namespace Go.Proofs.YtkeikfekkdplgaaGreatDoor
open Go Go.RowKit Go.ChangeShapes Go.WideShapes Go.ChangeAt Go.Joins
open Go.Proofs.Tryz
set_option maxRecDepth 100000
theorem evalEntries_lifted(os:Os)(started:os.Started)(H:Type)(enc:TypeId×Value->H):
  ReturnsInHanded {} Tryz.checked os 6 .any (λw args=>(Rows.evalEntriesSpec.pre enc prog Tryz.f6 [] false w args/\laidMetH prog Rows.evalEntriesRow.laid w)/\sizedMet enc prog Tryz.f6 (OpenSpec.ofChange Rows.evalEntriesSpec) false w args)
   (Rows.evalEntriesSpec.post enc prog Tryz.f6 false true false false):=by
 refine handed_and_shaped (C:=Tryz.checked) (X:=λw _=>laidMetH prog Rows.evalEntriesRow.laid w) (λ_ _ _ hh h=>h.of_heap hh) own started za func6
  (ChangeSpec.witness_shaped (enc:=enc) (C:=Tryz.checked) (os:=os) (X:=λw _=>laidMetH prog Rows.evalEntriesRow.laid w) false (World.laidAll prog os Rows.evalEntriesRow.laid) #[.slice none 0 0,.agg #[.slice none 0 0,.slice none 0 0,.int .u8 0],.int .u16 0] 8 (World.laidAll_os _ _ _)
   (World.shaped_of_ZipB za za) za za za
   zb5) ?_
 intro W base args ds gs before hval0 hW hL hsh;have hT:=tabM_of (show laidMetH prog Rows.evalMoreRow.laid W from hL) hsh;have hval:∀(j:Nat) t v,Tryz.f6.params[j]? =some t->args[j]? =some v->Value.okWide prog W .any base t v:=hval0;have hW':=hW;obtain⟨p,q,hA0,hV,rfl,hfz,hnd⟩:=hW;have hA:DataW.TrodAll enc prog W 0 (λ_=>true) true Tryz.f6.params.toList args.toList ds p:=hA0;rw[Tryz.params6]at hA hval;obtain⟨v1,v2,v3,d1,d2,d3,p1,p2,p3,rfl,rfl,rfl,k1,k2,k3⟩:=trodAll_three hA;obtain⟨rfl,rfl⟩:=trodVars_none hV;obtain⟨b1,r1⟩:=bytes_arg za (hval 0 22 v1 rfl rfl) k1;obtain⟨ca,cn,cc,ea,en',ec,g,rfl,hg,b2,b3,r2⟩:=raw43_arg (hval 1 24 v2 rfl rfl) k2;obtain⟨m3,rfl,rfl,rfl,hw3⟩:=open_int underlying62 (hval 2 62 v3 rfl rfl) k3;obtain⟨y3,z3⟩:=bounds_u16 hw3;obtain⟨m3,rfl⟩:=Int.eq_ofNat_of_zero_le y3;clear hA0 hval0;refine(Entr_w hT (hid λw9 e9=>examples_g (hT.ext e9)) b1 b2 b3 hg (by omega)).mono λe W' ⟨x,he,hb,hx⟩=>?_
 have hx:x=.bool true:=hx;subst he;subst hx;refine⟨_,rfl,post_of_below (pa:=p1++(p2++ [])) (pv:= []) hW' (λ_ _ _=>trodAll_mk1 (shut_bool underlying4 true)) (λsp hsp=>?_) (λ_ _=>rfl) (by simp) hb (ok_one za rfl (okWide_bool_mk underlying4 _))⟩;rw[Tryz.params6];exact trodAll_mk3 (r1 W' sp hb (λq hq=>hsp q (by simp[hq]))) (r2 W' sp hb (λq hq=>hsp q (by simp[hq]))) (shut_int underlying62 hw3)
theorem evalEntries_row:Rows.EvalEntriesSaid:=
 OpenClaim.holds_of_wide 6 Tryz.f6 rfl rfl rfl rfl rfl rfl rfl ⟨rfl,rfl,rfl,rfl,rfl⟩ rfl rfl rfl rfl rfl evalEntries_named func6 evalEntries_closed
  (of_decide_eq_true za) yr
  (λos started H enc _=>evalEntries_lifted os started H enc)
theorem evalEntries_holds:Rows.EvalEntriesCardSaid:=
 Claim7.holds_tied_plain_at .later [] [.data,.data,.data,.data,.pinned] true Rows.evalEntriesCard.stood.harness true
  evalEntries_row (λ_ h=>by cases h) za (λ_ h=>by cases h) evalEntries_row_tie rfl ⟨rfl,rfl⟩ za rfl
  (fun f fn hf hfn=>by
   obtain rfl:f=6:=Option.some.inj ((show prog.funcNamed "algorist/algoristlaw43.EvalEntries" =some 6 by kernel_rfl).symm.trans hf) |>.symm;obtain rfl:fn=Tryz.f6:=(Option.some.inj (func6.symm.trans hfn)).symm;refine⟨by kernel_rfl,λj t ht=>?_⟩;rw[Tryz.params6]at ht
   have h3:t=22\/t=24\/t=62:=by
    rcases j with _|_|_|j
    ·exact .inl xt
    ·exact .inr (.inl xt)
    ·exact .inr (.inr xt)
    ·simp at ht
   rcases h3 with rfl|rfl|rfl
   ·exact(show prog.wantsStandIn 22=false by kernel_rfl)
   ·exact(show prog.wantsStandIn 24=false by kernel_rfl)
   ·exact(show prog.wantsStandIn 62=false by kernel_rfl))
  za
#print axioms evalEntries_holds
end Go.Proofs.YtkeikfekkdplgaaGreatDoor
