/-
 The statement DensityClass: for every argument the law answers true, and the arguments read behind the call as they read before. The listed package variables hold what the program's text lays (the card ties them).
-/
import Derived.Test.YtknffgdbdadpcaaGreatDoorLow
import Derived.Test.YtknffgdbdadpcaaGreatDoorKlass3
import Derived.Test.YtknffgdbdadpcaaGreatDoorTie
import Derived.Test.YtknffgdbdadpcaaGreatDoorCards
import Derived.SevenTiedAt
namespace Go.Proofs.YtknffgdbdadpcaaGreatDoor
open Go Go.RowKit Go.ChangeShapes Go.WideShapes Go.ChangeAt
set_option maxRecDepth 100000 in
theorem densityClass_lifted (os:Os) (started:os.Started) (H:Type) (enc:TypeId×Value→H):
  ReturnsInHanded {} Tryz.checked os 5 .any (fun w args=>(Rows.densityClassSpec.pre enc Tryz.prog Tryz.f5 [] false w args∧laidMetH Tryz.prog laid4 w)∧sizedMet enc Tryz.prog Tryz.f5 (OpenSpec.ofChange Rows.densityClassSpec) false w args)
   (Rows.densityClassSpec.post enc Tryz.prog Tryz.f5 false true false false):=by
 refine returnsInHanded_of_change_and (C:=Tryz.checked) (X:=fun w _=>laidMetH Tryz.prog laid4 w) (fun _ _ _ hh h=>h.of_heap hh) own started (by kernel_rfl) Tryz.func5
  (ChangeSpec.witness_shaped (enc:=enc) (C:=Tryz.checked) (os:=os) (X:=fun w _=>laidMetH Tryz.prog laid4 w) false (World.doorLaid Tryz.prog 2000 os) #[.agg #[.int .u16 0,.int .u16 0,.int .u16 0,.int .u16 0,.int .u16 0,.int .u8 0,.int .u8 0,.int .u8 0,.int .u8 0]] 8 rfl (World.shaped_of_RefB (by kernel_rfl) (by kernel_rfl)) (by kernel_rfl) (by kernel_rfl) (by kernel_rfl) (door_met4 os _)) ?_
 intro W base args ds gs before hval0 hW _ _ hL _;have hval:∀ (j:Nat) t v,Tryz.f5.params[j]? =some t→args[j]? =some v→Value.okWide Tryz.prog W .any base t v:=hval0;have hW':=hW;obtain ⟨p,q,hA0,hV,rfl,hfz,hnd⟩:=hW;have hA:DataW.TrodAll enc Tryz.prog W 0 (fun _=>true) true Tryz.f5.params.toList args.toList ds p:=hA0;rw [Tryz.params5] at hA hval;obtain ⟨v1,d1,rfl,rfl,k1⟩:=trodAll_one hA;obtain ⟨rfl,rfl⟩:=trodVars_none hV;obtain ⟨n1,x1_1,x1_2,x1_3,x1_4,x1_5,x1_6,x1_7,x1_8,rfl,b1,r1⟩:=fraw_open (hval 0 26 v1 rfl rfl) k1;clear hA0 hval0;refine (Class40_c clsNums W n1 x1_1 x1_2 x1_3 x1_4 x1_5 x1_6 x1_7 x1_8 (tabs_of_laid hL).1 (tabs_of_laid hL).2 b1).mono fun e W' ⟨x,he,hb,hx⟩=> ?_
 have hx:x= .bool true:=hx;subst he;subst hx;refine ⟨_,rfl,post_of_below (pa:=p) (pv:= []) hW' (fun _ _ _=>trodAll_mk1 (shut_bool Tryz.underlying4 true)) (fun sp hsp=> ?_) (fun _ _=>rfl) (by simp) hb (ok_one (by kernel_rfl) rfl (okWide_bool_mk Tryz.underlying4 _))⟩;rw [Tryz.params5];exact trodAll_mk1 (r1 W' sp hb fun q hq=>hsp q (by simp [hq]))
theorem densityClass_row:Rows.DensityClassSaid:=
 OpenClaim.holds_of_wide 5 Tryz.f5 rfl rfl rfl rfl rfl rfl rfl ⟨rfl,rfl,rfl,rfl,rfl⟩ rfl rfl rfl rfl rfl (by kernel_rfl) Tryz.func5 (by kernel_rfl)
  (of_decide_eq_true (by kernel_rfl)) (by unfold Func.isWrapper;first | (rw [if_pos (by decide +kernel)];kernel_rfl) | (rw [if_neg (by decide +kernel)];exact ⟨rfl,rfl⟩))
  (fun os started H enc _=>densityClass_lifted os started H enc)
set_option maxRecDepth 100000 in
theorem densityClass_holds:Rows.DensityClassCardSaid:=
 Claim7.holds_tied_plain_at .later [] [.data,.data,.data,.data] true Rows.densityClassCard.stood.harness false
  densityClass_row (fun _ h=>by cases h) (by kernel_rfl) (fun _ h=>by cases h) densityClass_row_tie rfl ⟨rfl,rfl⟩ (by kernel_rfl) rfl
  (fun f fn hf hfn=>by
   obtain rfl:f=5:=Option.some.inj ((show Tryz.prog.funcNamed "algorist/algoristlaw40.DensityClass" =some 5 by kernel_rfl).symm.trans hf) |>.symm;obtain rfl:fn=Tryz.f5:=(Option.some.inj (Tryz.func5.symm.trans hfn)).symm;refine ⟨by kernel_rfl,fun j t ht=> ?_⟩;rw [Tryz.params5] at ht
   have h3:t=26:=by
    rcases j with _ | j
    ·simpa using ht.symm
    ·simp at ht
   subst h3
   exact (show Tryz.prog.wantsStandIn 26=false by kernel_rfl))
  (by kernel_rfl)
#print axioms densityClass_holds
end Go.Proofs.YtknffgdbdadpcaaGreatDoor
