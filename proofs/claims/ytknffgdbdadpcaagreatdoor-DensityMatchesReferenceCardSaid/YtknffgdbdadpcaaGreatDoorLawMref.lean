/-
 The statement DensityMatchesReference: for every argument the law answers true, and the arguments read behind the call as they read before. The listed package variables hold what the program's text lays (the card ties them).
-/
import Derived.Test.YtknffgdbdadpcaaGreatDoorPs1
import Derived.Test.YtknffgdbdadpcaaGreatDoorAgr
import Derived.Test.YtknffgdbdadpcaaGreatDoorTie
import Derived.Test.YtknffgdbdadpcaaGreatDoorCards
import Derived.SevenTiedAt
namespace Go.Proofs.YtknffgdbdadpcaaGreatDoor
open Go Go.RowKit Go.ChangeShapes Go.WideShapes Go.ChangeAt
open Go.Proofs.Tryz
set_option maxRecDepth 100000
theorem densityMatchesReference_lifted(os:Os)(started:os.Started)(H:Type)(enc:TypeId×Value->H):
  ReturnsInHanded {} Tryz.checked os 3 .any (λw args=>(Rows.densityMatchesReferenceSpec.pre enc prog Tryz.f3 [] false w args/\laidMetH prog laid4 w)/\sizedMet enc prog Tryz.f3 (OpenSpec.ofChange Rows.densityMatchesReferenceSpec) false w args)
   (Rows.densityMatchesReferenceSpec.post enc prog Tryz.f3 false true false false):=by
 refine returnsInHanded_of_change_and (C:=Tryz.checked) (X:=λw _=>laidMetH prog laid4 w) (λ_ _ _ hh h=>h.of_heap hh) own started za func3
  (ChangeSpec.witness_shaped (enc:=enc) (C:=Tryz.checked) (os:=os) (X:=λw _=>laidMetH prog laid4 w) false (World.doorLaid prog 2000 os) #[.agg #[.int .u16 0,.int .u16 0,.int .u16 0,.int .u16 0,.int .u16 0,.int .u8 0,.int .u8 0,.int .u8 0,.int .u8 0],.agg #[.bool false,.slice none 0 0,.bool false,.slice none 0 0],.int .i64 0] 8 rfl (World.shaped_of_RefB za za) za za za (door_met4 os _)) ?_
 intro W base args ds gs before hval0 hW _ _ hL _;have hval:∀(j:Nat) t v,Tryz.f3.params[j]? =some t->args[j]? =some v->Value.okWide prog W .any base t v:=hval0;have hW':=hW;obtain⟨p,q,hA0,hV,rfl,hfz,hnd⟩:=hW;have hA:DataW.TrodAll enc prog W 0 (λ_=>true) true Tryz.f3.params.toList args.toList ds p:=hA0;rw[Tryz.params3]at hA hval;obtain⟨v1,v2,v3,d1,d2,d3,p1,p2,p3,rfl,rfl,rfl,k1,k2,k3⟩:=trodAll_three hA;obtain⟨rfl,rfl⟩:=trodVars_none hV;obtain⟨n1,x1_1,x1_2,x1_3,x1_4,x1_5,x1_6,x1_7,x1_8,rfl,b1,r1⟩:=fraw_open (hval 0 26 v1 rfl rfl) k1;obtain⟨sX,aX,nX,cX,xX,sY,aY,nY,cY,xY,rfl,wX,wY,r2⟩:=rawa_open (hval 1 30 v2 rfl rfl) k2;obtain⟨m3,rfl,rfl,rfl,hw3⟩:=open_int underlying3 (hval 2 3 v3 rfl rfl) k3;have y3:=wf_i64 _ hw3;clear hA0 hval0;refine(MatchesReference_c W n1 x1_1 x1_2 x1_3 x1_4 x1_5 x1_6 x1_7 x1_8 sX sY aX aY nX cX nY cY xX xY wX wY m3 (tabs_of_laid hL).1 (tabs_of_laid hL).2 (tzt_of_laid hL) b1 y3).mono λe W' ⟨x,he,hb,hx⟩=>?_
 have hx:x=.bool true:=hx;subst he;subst hx;refine⟨_,rfl,post_of_below (pa:=p1++(p2++ [])) (pv:= []) hW' (λ_ _ _=>trodAll_mk1 (shut_bool underlying4 true)) (λsp hsp=>?_) (λ_ _=>rfl) zh hb (ok_one za rfl (okWide_bool_mk underlying4 _))⟩;rw[Tryz.params3];exact trodAll_mk3 (r1 W' sp hb λq hq=>hsp q (by simp[hq])) (r2 W' sp hb λq hq=>hsp q (by simp[hq])) (shut_int underlying3 hw3)
theorem densityMatchesReference_row:Rows.DensityMatchesReferenceSaid:=
 OpenClaim.holds_of_wide 3 Tryz.f3 rfl rfl rfl rfl rfl rfl rfl ⟨rfl,rfl,rfl,rfl,rfl⟩ rfl rfl rfl rfl rfl za func3 za
  (of_decide_eq_true za) (by unfold Func.isWrapper;first| (rw[if_pos (by decide +kernel)];kernel_rfl)| (rw[if_neg (by decide +kernel)];exact⟨rfl,rfl⟩))
  (λos started H enc _=>densityMatchesReference_lifted os started H enc)
theorem densityMatchesReference_holds:Rows.DensityMatchesReferenceCardSaid:=
 Claim7.holds_tied_plain_at .later [] [.data,.data,.data,.data] true Rows.densityMatchesReferenceCard.stood.harness false
  densityMatchesReference_row (λ_ h=>by cases h) za (λ_ h=>by cases h) densityMatchesReference_row_tie rfl ⟨rfl,rfl⟩ za rfl
  (fun f fn hf hfn=>by
   obtain rfl:f=3:=Option.some.inj ((show prog.funcNamed "algorist/algoristlaw40.DensityMatchesReference" =some 3 by kernel_rfl).symm.trans hf) |>.symm;obtain rfl:fn=Tryz.f3:=(Option.some.inj (func3.symm.trans hfn)).symm;refine⟨by kernel_rfl,λj t ht=>?_⟩;rw[Tryz.params3]at ht
   have h3:t=26\/t=30\/t=3:=by
    rcases j with _|_|_|j
    ·left;simpa using ht.symm
    ·right;left;simpa using ht.symm
    ·right;right;simpa using ht.symm
    ·simp at ht
   rcases h3 with rfl|rfl|rfl
   ·exact(show prog.wantsStandIn 26=false by kernel_rfl)
   ·exact(show prog.wantsStandIn 30=false by kernel_rfl)
   ·exact(show prog.wantsStandIn 3=false by kernel_rfl))
  za
#print axioms densityMatchesReference_holds
end Go.Proofs.YtknffgdbdadpcaaGreatDoor
