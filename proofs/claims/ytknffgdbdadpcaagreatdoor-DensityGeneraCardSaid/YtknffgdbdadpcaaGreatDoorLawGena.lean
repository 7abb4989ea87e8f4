/-
 The statement DensityGenera: for every argument the law answers true, and the arguments read behind the call as they read before. The listed package variables hold what the program's text lays (the card ties them).
-/
import Derived.Test.YtknffgdbdadpcaaGreatDoorPw
import Derived.Test.YtknffgdbdadpcaaGreatDoorGena2
import Derived.Test.YtknffgdbdadpcaaGreatDoorTie
import Derived.Test.YtknffgdbdadpcaaGreatDoorCards
import Derived.SevenTiedAt
namespace Go.Proofs.YtknffgdbdadpcaaGreatDoor
open Go Go.RowKit Go.ChangeShapes Go.WideShapes Go.ChangeAt
open Go.Proofs.Tryz
set_option maxRecDepth 100000
theorem densityGenera_lifted (os:Os) (started:os.Started) (H:Type) (enc:TypeId×Value→H):
  ReturnsInHanded {} Tryz.checked os 6 .any (fun w args=>(Rows.densityGeneraSpec.pre enc prog Tryz.f6 [] false w args∧laidMetH prog laid4 w)∧sizedMet enc prog Tryz.f6 (OpenSpec.ofChange Rows.densityGeneraSpec) false w args)
   (Rows.densityGeneraSpec.post enc prog Tryz.f6 false true false false):=by
 refine returnsInHanded_of_change_and (C:=Tryz.checked) (X:=fun w _=>laidMetH prog laid4 w) (fun _ _ _ hh h=>h.of_heap hh) own started (by kernel_rfl) func6
  (ChangeSpec.witness_shaped (enc:=enc) (C:=Tryz.checked) (os:=os) (X:=fun w _=>laidMetH prog laid4 w) false (World.doorLaid prog 2000 os) #[.agg #[.int .u16 0,.int .u16 0,.int .u16 0,.int .u16 0,.int .u16 0,.int .u8 0,.int .u8 0,.int .u8 0,.int .u8 0],.int .u8 0] 8 rfl (World.shaped_of_RefB (by kernel_rfl) (by kernel_rfl)) (by kernel_rfl) (by kernel_rfl) (by kernel_rfl) (door_met4 os _)) ?_
 intro W base args ds gs before hval0 hW _ _ hL _;have hval:∀ (j:Nat) t v,Tryz.f6.params[j]? =some t→args[j]? =some v→Value.okWide prog W .any base t v:=hval0;have hW':=hW;obtain ⟨p,q,hA0,hV,rfl,hfz,hnd⟩:=hW;have hA:DataW.TrodAll enc prog W 0 (fun _=>true) true Tryz.f6.params.toList args.toList ds p:=hA0;rw [Tryz.params6] at hA hval;obtain ⟨v1,v2,d1,d2,p1,p2,rfl,rfl,rfl,k1,k2⟩:=trodAll_two hA;obtain ⟨rfl,rfl⟩:=trodVars_none hV;obtain ⟨n1,x1_1,x1_2,x1_3,x1_4,x1_5,x1_6,x1_7,x1_8,rfl,b1,r1⟩:=fraw_open (hval 0 26 v1 rfl rfl) k1;obtain ⟨m2,rfl,rfl,rfl,hw2⟩:=open_int underlying5 (hval 1 5 v2 rfl rfl) k2;obtain ⟨y2,z2⟩:=wf_u8 _ hw2;obtain ⟨m2,rfl⟩:=Int.eq_ofNat_of_zero_le y2;clear hA0 hval0;refine (Genera_c W n1 m2 x1_1 x1_2 x1_3 x1_4 x1_5 x1_6 x1_7 x1_8 (tabs_of_laid hL).1 (tabs_of_laid hL).2 b1 (show m2<256 by omega)).mono fun e W' ⟨x,he,hb,hx⟩=> ?_
 have hx:x= .bool true:=hx;subst he;subst hx;refine ⟨_,rfl,post_of_below (pa:=p1++ []) (pv:= []) hW' (fun _ _ _=>trodAll_mk1 (shut_bool underlying4 true)) (fun sp hsp=> ?_) (fun _ _=>rfl) (by simp) hb (ok_one (by kernel_rfl) rfl (okWide_bool_mk underlying4 _))⟩;rw [Tryz.params6];exact trodAll_mk2 (r1 W' sp hb fun q hq=>hsp q (by simp [hq])) (shut_int underlying5 hw2)
theorem densityGenera_row:Rows.DensityGeneraSaid:=
 OpenClaim.holds_of_wide 6 Tryz.f6 rfl rfl rfl rfl rfl rfl rfl ⟨rfl,rfl,rfl,rfl,rfl⟩ rfl rfl rfl rfl rfl (by kernel_rfl) func6 (by kernel_rfl)
  (of_decide_eq_true (by kernel_rfl)) (by unfold Func.isWrapper;first | (rw [if_pos (by decide +kernel)];kernel_rfl) | (rw [if_neg (by decide +kernel)];exact ⟨rfl,rfl⟩))
  (fun os started H enc _=>densityGenera_lifted os started H enc)
theorem densityGenera_holds:Rows.DensityGeneraCardSaid:=
 Claim7.holds_tied_plain_at .later [] [.data,.data,.data,.data] true Rows.densityGeneraCard.stood.harness false
  densityGenera_row (fun _ h=>by cases h) (by kernel_rfl) (fun _ h=>by cases h) densityGenera_row_tie rfl ⟨rfl,rfl⟩ (by kernel_rfl) rfl
  (fun f fn hf hfn=>by
   obtain rfl:f=6:=Option.some.inj ((show prog.funcNamed "algorist/algoristlaw40.DensityGenera" =some 6 by kernel_rfl).symm.trans hf) |>.symm;obtain rfl:fn=Tryz.f6:=(Option.some.inj (func6.symm.trans hfn)).symm;refine ⟨by kernel_rfl,fun j t ht=> ?_⟩;rw [Tryz.params6] at ht
   have h3:t=26∨t=5:=by
    rcases j with _ | _ | j
    ·left;simpa using ht.symm
    ·right;simpa using ht.symm
    ·simp at ht
   rcases h3 with rfl | rfl
   ·exact (show prog.wantsStandIn 26=false by kernel_rfl)
   ·exact (show prog.wantsStandIn 5=false by kernel_rfl))
  (by kernel_rfl)
#print axioms densityGenera_holds
end Go.Proofs.YtknffgdbdadpcaaGreatDoor
