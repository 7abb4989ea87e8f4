/-
 The reference of package density: text, single, Audit; package density: Audit of what is refused. (Printed by wip/gen/den41.py.)
-/
import Derived.Test.YtknffgdbdadpcaaGreatDoorDen40
import Derived.Test.YtknffgdbdadpcaaGreatDoorDen16
import Derived.Test.YtknffgdbdadpcaaGreatDoorRText
namespace Go.Proofs.YtknffgdbdadpcaaGreatDoor
open Go Go.RowKit

set_option maxRecDepth 100000 in
set_option maxHeartbeats 4000000 in
theorem rtext_f {k1 : Nat} {z : Int} {x : Value} {w : World} (hx : IsI k1 z x w) (HK : Hid (k1 ≤ 162)) (tn : ByteArray) (HTN : Hid (encS (textS z) = .string tn ∧ textE z = 0 ∧ tn.size ≤ 1000)) : Calls Tryz.prog 60 #[x] w (Ret w (IsV (.string tn))) := by
 obtain ⟨s1, a1, n1, c1, rfl, h1⟩ := hx
 have h1 : IsI _ _ _ w := ⟨_, _, _, _, rfl, h1⟩
 obtain ⟨W, hW, S⟩ : ∃ W, W = w.alloc (.cells #[.bool s1, .slice a1 n1 c1] 33) ∧ Sto w W [((w.heap.size, 0), IsI k1 z)] := ⟨_, rfl, ((Sto.start w).new1 (w.heap.size) (by simp) s1 a1 n1 c1 33 (IsI k1 z) (IsI.gstb _ _) (h1))⟩
 clear h1
 go_enter Tryz.func60, Tryz.ntmps60
 go_upto_region 1 with (fail)
 rw [← hW]
 clear hW
 refine rgs 7 [some 6, some 7, some 5, some 8, some 9, some 3, some 4] [IsI k1 z, IsT2 (IsV (.string tn)) (IsV (.int .i64 0)), IsT2 (IsV (.string tn)) (IsV (.int .i64 0)), IsV (.string tn), IsV (.int .i64 0), IsV (.string tn), IsV (.int .i64 0)] [] ?_ ?_
 ·refine Rc (ldI S 0 (w.heap.size) 0 (Od.lit 1) ld_Int) ?_
  refine Rc (cl1 (en Tryz.func32) (Od.lc (Φ := IsI k1 z) 0 6) (fun x0 w' hE d0 => (by have hh := RText_f d0 HK.out; rw [HTN.out.1, HTN.out.2.1] at hh; exact hh))) ?_
  refine Rc (mv (Od.lc 1 7)) ?_
  refine Rc (ex (Od.loc 2 5) t20) ?_
  refine Rc (ex (Od.loc 2 5) t21) ?_
  refine Rc (mv (Od.lc 3 8)) ?_
  refine Rc (mv (Od.lc 4 9)) ?_
  exact RgAll.nil
 intro v W1 e1 hΦ _
 replace S := S.mono e1
 have v5 : v 5 = .string tn := hΦ 5 (by decide)
 simp only [layL, Act.put, uAx, u0x, u1x, Nat.reduceAdd]
 rw [v5]
 clear v5 hΦ e1
 refine wpList_nil ?_
 go_upto_region 2 with (fail)
 refine rgs 2 [some 10, some 2] [IsV (.string tn), IsV (.string tn)] [] ?_ ?_
 ·refine Rc (mv (Od.lit 3)) ?_
  refine Rc (mv (Od.lc 0 10)) ?_
  exact RgAll.nil
 intro v W2 e1 hΦ _
 replace S := S.mono e1
 have v1 : v 1 = .string tn := hΦ 1 (by decide)
 simp only [layL, Act.put, uAx, u0x, u1x, Nat.reduceAdd]
 rw [v1]
 clear v1 hΦ e1
 refine wpList_nil ?_
 go_wp2_with fail
 exact bodyPost_ret (v := .string tn) (by simp [results, Tryz.results60, go_sem]) rfl (⟨_, rfl, S.ext, rfl⟩)

set_option maxRecDepth 100000 in
set_option maxHeartbeats 4000000 in
theorem single_f (w : World) (name : ByteArray) (z : Int) (hz : -9223372036854775808 ≤ z ∧ z ≤ 9223372036854775807) : Calls Tryz.prog 59 #[.string name, .int .i64 z] w (Ret w (AuV name 2 1 (Rat.divInt z 1))) := by
 have HZ := hid hz
 clear hz
 obtain ⟨W, hW, E, hc, hf⟩ : ∃ W, W = w.alloc (.cells #[.slice none 0 0, .bool false, .slice none 0 0, .bool false, .slice none 0 0] 48) ∧ Ext w W ∧ (∀ (j : Nat) (v : Value), (#[.slice none 0 0, .bool false, .slice none 0 0, .bool false, .slice none 0 0] : Array Value)[j]? = some v → World.cell? W ⟨w.heap.size, j, none⟩ = some v) ∧ ∀ j, World.frozen? W ⟨w.heap.size, j, none⟩ = false :=
  ⟨_, rfl, (Ext.refl _).alloc _, fun j v hj => cell_newAt _ _ rfl _ _ _ _ hj, fun j => by simp⟩
 go_enter Tryz.func59, Tryz.ntmps59
 go_upto_region 1 with (fail)
 rw [← hW]
 have hWs : W.heap.size = w.heap.size + 1 := by rw [hW]; simp
 clear hW
 have M0 := hc 0 _ rfl
 have M1 := hc 1 _ rfl
 have M2 := hc 2 _ rfl
 have M3 := hc 3 _ rfl
 have M4 := hc 4 _ rfl
 have N0 := hf 0
 have N1 := hf 1
 have N2 := hf 2
 have N3 := hf 3
 have N4 := hf 4
 clear hc hf
 have hA := fun W => rqOf_f W 1 1 (by decide) (by decide) (by decide)
 have hB := fun W => rqOf_f W z 1 HZ.out (by decide) (by decide)
 go_wp2_with (go_at_call 34; go_must (first | (refine Calls.mono (hA _) ?_; rintro e w1 ⟨_, rfl, E1, sA, aA, nA, cA, sB, aB, nB, cB, rfl, hA1, hA2⟩; clear hA) | (refine Calls.mono (hB _) ?_; rintro e w2 ⟨_, rfl, E2, sC, aC, nC, cC, sD, aD, nD, cD, rfl, hB1, hB2⟩; clear hB; have L0 := Ext.cell ((E1.alloc _).trans E2) M0; have L1 := Ext.cell ((E1.alloc _).trans E2) M1; have L2 := Ext.cell ((E1.alloc _).trans E2) M2; have L3 := Ext.cell ((E1.alloc _).trans E2) M3; have L4 := Ext.cell ((E1.alloc _).trans E2) M4; have K0 := (Ext.frozen ((E1.alloc _).trans E2) (p := ⟨w.heap.size, 0, none⟩) (by show w.heap.size < _; omega)).trans N0; have K1 := (Ext.frozen ((E1.alloc _).trans E2) (p := ⟨w.heap.size, 1, none⟩) (by show w.heap.size < _; omega)).trans N1; have K2 := (Ext.frozen ((E1.alloc _).trans E2) (p := ⟨w.heap.size, 2, none⟩) (by show w.heap.size < _; omega)).trans N2; have K3 := (Ext.frozen ((E1.alloc _).trans E2) (p := ⟨w.heap.size, 3, none⟩) (by show w.heap.size < _; omega)).trans N3; have K4 := (Ext.frozen ((E1.alloc _).trans E2) (p := ⟨w.heap.size, 4, none⟩) (by show w.heap.size < _; omega)).trans N4)))
 have hs : ∀ i, i < 5 → (World.cell? w2 ⟨w.heap.size, 0 + i, none⟩).isSome := fun i hi => by
  rcases (show i = 0 ∨ i = 1 ∨ i = 2 ∨ i = 3 ∨ i = 4 by omega) with rfl | rfl | rfl | rfl | rfl
  ·rw [L0]; rfl
  ·rw [L1]; rfl
  ·rw [L2]; rfl
  ·rw [L3]; rfl
  ·rw [L4]; rfl
 have hnw : ∀ i, i < 5 → ∃ u, World.cell? w2 ⟨w.heap.size, 0 + i, none⟩ = some u ∧ NoWord u := fun i hi => by
  rcases (show i = 0 ∨ i = 1 ∨ i = 2 ∨ i = 3 ∨ i = 4 by omega) with rfl | rfl | rfl | rfl | rfl
  ·exact ⟨_, L0, NoWord.slice _ _ _⟩
  ·exact ⟨_, L1, NoWord.bool _⟩
  ·exact ⟨_, L2, NoWord.slice _ _ _⟩
  ·exact ⟨_, L3, NoWord.bool _⟩
  ·exact ⟨_, L4, NoWord.slice _ _ _⟩
 obtain ⟨vs, hvs⟩ : ∃ vs : List Value, vs = [.slice (some ⟨w1.heap.size, 0, none⟩) 1 1, .bool sC, .slice aC nC cC, .bool sD, .slice aD nD cD] := ⟨_, rfl⟩
 have hl5 : vs.length = 5 := by rw [hvs]; rfl
 have hcell := setL_cell vs w2 w.heap.size 0 (by rw [hl5]; exact hs)
 have hgr := setL_gr vs w2 w.heap.size 0 (by rw [hl5]; exact hnw)
 have hbel := setL_below vs w2 w w.heap.size 0 w.heap.size (((E.trans E1).alloc _).trans E2) (Nat.le_refl _)
 have hoth := fun p hp => setL_other vs w2 w.heap.size 0 p (.inl hp)
 obtain ⟨W9, hW9⟩ : ∃ W9, setL w2 w.heap.size 0 vs = W9 := ⟨_, rfl⟩
 rw [hW9] at hcell hgr hbel
 simp only [hW9] at hoth
 subst hvs
 simp only [setL, Nat.zero_add, Nat.reduceAdd] at hW9
 rw [hW9]
 have c0 := hcell 0 _ rfl
 have c1 := hcell 1 _ rfl
 have c2 := hcell 2 _ rfl
 have c3 := hcell 3 _ rfl
 have c4 := hcell 4 _ rfl
 try simp only [Nat.zero_add] at c0 c1 c2 c3 c4
 have hg1 : w1.heap.size ≠ w.heap.size := by have := E1.size; omega
 have hpart : PartAt W9 w1.heap.size name 2 1 := by
  have hE2 := fun j (v : Value) h => (hoth ⟨w1.heap.size, j, none⟩ hg1).trans (E2.cell (cell_newAt w1 w1.heap.size rfl #[.string name, .int .i64 0, .bool sA, .slice aA nA cA, .bool sB, .slice aB nB cB, .bool false, .bool false, .slice none 0 0] 74 j v h))
  exact ⟨hE2 0 _ rfl, hE2 1 _ rfl, ⟨_, _, _, _, _, _, _, _, hE2 2 _ rfl, hE2 3 _ rfl, hE2 4 _ rfl, hE2 5 _ rfl, IsQ.gstb (IsI.gstb _ _) (IsI.gstb _ _) _ _ _ ((Gr.refl _).ext (((Ext.refl w1).alloc _).trans E2) |>.trans hgr) ⟨_, _, _, _, _, _, _, _, rfl, hA1, hA2⟩⟩, hE2 6 _ rfl, hE2 7 _ rfl, hE2 8 _ rfl⟩
 have htot := IsQ.gstb (IsI.gstb _ _) (IsI.gstb _ _) _ _ _ hgr ⟨_, _, _, _, _, _, _, _, rfl, hB1, hB2⟩
 exact bodyPost_ret (v := .agg #[.slice (some ⟨w1.heap.size, 0, none⟩) 1 1, .bool sC, .slice aC nC cC, .bool sD, .slice aD nD cD]) (by simp [results, Tryz.results59, go_sem, c0, c1, c2, c3, c4]) rfl ⟨_, rfl, hbel, _, _, _, _, _, _, _, _, _, rfl, htot, hpart⟩

set_option maxRecDepth 100000 in
set_option maxHeartbeats 4000000 in
theorem Audit_x {k1 k2 : Nat} {zd z : Int} {x y : Value} {w : World} (hx : IsI k1 zd x w) (hy : IsI k2 z y w) (HK : Hid (k1 ≤ 162 ∧ k2 ≤ 162)) {ue te : Int} (HTO : Hid (∀ (x y : Value) (w' : World), Ext w w' → IsI k1 zd x w' → IsI k2 z y w' → Calls Tryz.prog 12 #[x, y] w' (Ret w' (IsT2 (IsV (.int .i64 te)) (IsV (.int .i64 ue)))))) (HUB : Hid ((ue != 0) = true)) : Calls Tryz.prog 16 #[x, y] w (Ret w (IsT2 (IsV auNil) (IsV (.int .i64 (ue))))) := by
 obtain ⟨s1, a1, n1, c1, rfl, h1⟩ := hx
 have h1 : IsI _ _ _ w := ⟨_, _, _, _, rfl, h1⟩
 obtain ⟨s2, a2, n2, c2, rfl, h2⟩ := hy
 have h2 : IsI _ _ _ w := ⟨_, _, _, _, rfl, h2⟩
 obtain ⟨W, hW, S, AB⟩ : ∃ W, W = ((w.alloc (.cells #[.bool s1, .slice a1 n1 c1] 33)).alloc (.cells #[.bool s2, .slice a2 n2 c2] 33)).alloc (.cells #[.slice none 0 0, .bool false, .slice none 0 0, .bool false, .slice none 0 0] 48) ∧ Sto w W [((w.heap.size + 1, 0), IsI k2 z), ((w.heap.size, 0), IsI k1 zd)] ∧ AuBox W (w.heap.size + 1 + 1) := ⟨_, rfl, ((((Sto.start w).new1 (w.heap.size) (by simp) s1 a1 n1 c1 33 (IsI k1 zd) (IsI.gstb _ _) (h1)).new1 (w.heap.size + 1) (by simp) s2 a2 n2 c2 33 (IsI k2 z) (IsI.gstb _ _) (h2.ext ((Ext.refl _).alloc _))).mono ((Ext.refl _).alloc _)), AuBox.newE _ _ (by simp)⟩
 clear h1 h2
 have EA := Ext.refl W
 go_enter Tryz.func16, Tryz.ntmps16
 go_upto_region 1 with (fail)
 rw [← hW]
 clear hW
 refine rgs 8 [some 13, some 14, some 15, some 12, some 16, some 17, some 6, some 7] [IsI k1 zd, IsI k2 z, IsT2 (IsV (.int .i64 te)) (IsV (.int .i64 ue)), IsT2 (IsV (.int .i64 te)) (IsV (.int .i64 ue)), IsV (.int .i64 te), IsV (.int .i64 ue), IsV (.int .i64 te), IsV (.int .i64 ue)] [] ?_ ?_
 ·refine Rc (ldI S 1 (w.heap.size) 0 (Od.lit 2) ld_Int) ?_
  refine Rc (ldI S 0 (w.heap.size + 1) 0 (Od.lit 3) ld_Int) ?_
  refine Rc (cl2 (en Tryz.func12) (Od.lc (Φ := IsI k1 zd) 0 13) (Od.lc (Φ := IsI k2 z) 1 14) (fun x0 x1 w' hE d0 d1 => HTO.out _ _ _ (S.ext.trans hE) d0 d1)) ?_
  refine Rc (mv (Od.lc 2 15)) ?_
  refine Rc (ex (Od.loc 3 12) t20) ?_
  refine Rc (ex (Od.loc 3 12) t21) ?_
  refine Rc (mv (Od.lc 4 16)) ?_
  refine Rc (mv (Od.lc 5 17)) ?_
  exact RgAll.nil
 intro v W1 e1 hΦ _
 replace S := S.mono e1
 replace EA := EA.trans e1
 have v6 : v 6 = .int .i64 te := hΦ 6 (by decide)
 have v7 : v 7 = .int .i64 ue := hΦ 7 (by decide)
 simp only [layL, Act.put, uAx, u0x, u1x, Nat.reduceAdd]
 rw [v6, v7]
 clear v6 v7 hΦ e1
 refine wpList_nil ?_
 go_upto_region 2 with (fail)
 refine rgs 2 [some 18, some 19] [IsV (.int .i64 ue), IsV (.bool true)] [] ?_ ?_
 ·refine Rc (mv (Od.lit 7)) ?_
  refine Rc (bn (r := .bool true) (Od.loc 0 18) Od.con (hr := fun w => by have hx9 := HUB.out; go_simp)) ?_
  exact RgAll.nil
 intro v W2 e1 hΦ _
 replace S := S.mono e1
 replace EA := EA.trans e1
 have v1 : v 1 = .bool true := hΦ 1 (by decide)
 simp only [layL, Act.put, uAx, u0x, u1x, Nat.reduceAdd]
 rw [v1]
 clear v1 hΦ e1
 refine wpList_nil ?_
 go_upto_region 3 with (fail)
 have AB9 := AB.ext EA
 have M0 := AB9.m0
 have M1 := AB9.m1
 have M2 := AB9.m2
 have M3 := AB9.m3
 have M4 := AB9.m4
 have N0 := AB9.f 0
 have N1 := AB9.f 1
 have N2 := AB9.f 2
 have N3 := AB9.f 3
 have N4 := AB9.f 4
 have HE := hid S.ext
 clear S EA AB
 go_wp2_with fail
 obtain ⟨W9, hW9, hAt, hbel, _, _⟩ := au_put AB9 none 0 0 false none 0 0 false none 0 0
 rw [hW9]
 have c0 := hAt.m0
 have c1 := hAt.m1
 have c2 := hAt.m2
 have c3 := hAt.m3
 have c4 := hAt.m4
 exact bodyPost_ret (v := .tuple #[auNil, .int .i64 ue]) (by simp [results, Tryz.results16, go_sem, c0, c1, c2, c3, c4, auNil]) rfl ⟨_, rfl, hbel _ _ HE.out (by omega), _, _, rfl, rfl, rfl⟩

set_option maxRecDepth 100000 in
set_option maxHeartbeats 4000000 in
theorem rAudit_e {k1 k2 : Nat} {zd z : Int} {x y : Value} {w : World} (hx : IsI k1 zd x w) (hy : IsI k2 z y w) (HK : Hid (k1 ≤ 162 ∧ k2 ≤ 162)) {ue te : Int} (HTO : Hid (∀ (x y : Value) (w' : World), Ext w w' → IsI k1 zd x w' → IsI k2 z y w' → Calls Tryz.prog 13 #[x, y] w' (Ret w' (IsT2 (IsV (.int .i64 te)) (IsV (.int .i64 ue)))))) (HUB : Hid ((ue != 0) = true)) : Calls Tryz.prog 17 #[x, y] w (Ret w (IsT2 (IsV auNil) (IsV (.int .i64 (ue))))) := by
 obtain ⟨s1, a1, n1, c1, rfl, h1⟩ := hx
 have h1 : IsI _ _ _ w := ⟨_, _, _, _, rfl, h1⟩
 obtain ⟨s2, a2, n2, c2, rfl, h2⟩ := hy
 have h2 : IsI _ _ _ w := ⟨_, _, _, _, rfl, h2⟩
 obtain ⟨W, hW, S, AB⟩ : ∃ W, W = ((w.alloc (.cells #[.bool s1, .slice a1 n1 c1] 33)).alloc (.cells #[.bool s2, .slice a2 n2 c2] 33)).alloc (.cells #[.slice none 0 0, .bool false, .slice none 0 0, .bool false, .slice none 0 0] 48) ∧ Sto w W [((w.heap.size + 1, 0), IsI k2 z), ((w.heap.size, 0), IsI k1 zd)] ∧ AuBox W (w.heap.size + 1 + 1) := ⟨_, rfl, ((((Sto.start w).new1 (w.heap.size) (by simp) s1 a1 n1 c1 33 (IsI k1 zd) (IsI.gstb _ _) (h1)).new1 (w.heap.size + 1) (by simp) s2 a2 n2 c2 33 (IsI k2 z) (IsI.gstb _ _) (h2.ext ((Ext.refl _).alloc _))).mono ((Ext.refl _).alloc _)), AuBox.newE _ _ (by simp)⟩
 clear h1 h2
 have EA := Ext.refl W
 go_enter Tryz.func17, Tryz.ntmps17
 go_upto_region 1 with (fail)
 rw [← hW]
 clear hW
 refine rgs 8 [some 9, some 10, some 11, some 8, some 12, some 13, some 6, some 7] [IsI k1 zd, IsI k2 z, IsT2 (IsV (.int .i64 te)) (IsV (.int .i64 ue)), IsT2 (IsV (.int .i64 te)) (IsV (.int .i64 ue)), IsV (.int .i64 te), IsV (.int .i64 ue), IsV (.int .i64 te), IsV (.int .i64 ue)] [] ?_ ?_
 ·refine Rc (ldI S 1 (w.heap.size) 0 (Od.lit 2) ld_Int) ?_
  refine Rc (ldI S 0 (w.heap.size + 1) 0 (Od.lit 3) ld_Int) ?_
  refine Rc (cl2 (en Tryz.func13) (Od.lc (Φ := IsI k1 zd) 0 9) (Od.lc (Φ := IsI k2 z) 1 10) (fun x0 x1 w' hE d0 d1 => HTO.out _ _ _ (S.ext.trans hE) d0 d1)) ?_
  refine Rc (mv (Od.lc 2 11)) ?_
  refine Rc (ex (Od.loc 3 8) t20) ?_
  refine Rc (ex (Od.loc 3 8) t21) ?_
  refine Rc (mv (Od.lc 4 12)) ?_
  refine Rc (mv (Od.lc 5 13)) ?_
  exact RgAll.nil
 intro v W1 e1 hΦ _
 replace S := S.mono e1
 replace EA := EA.trans e1
 have v6 : v 6 = .int .i64 te := hΦ 6 (by decide)
 have v7 : v 7 = .int .i64 ue := hΦ 7 (by decide)
 simp only [layL, Act.put, uAx, u0x, u1x, Nat.reduceAdd]
 rw [v6, v7]
 clear v6 v7 hΦ e1
 refine wpList_nil ?_
 go_upto_region 2 with (fail)
 refine rgs 2 [some 14, some 15] [IsV (.int .i64 ue), IsV (.bool true)] [] ?_ ?_
 ·refine Rc (mv (Od.lit 7)) ?_
  refine Rc (bn (r := .bool true) (Od.loc 0 14) Od.con (hr := fun w => by have hx9 := HUB.out; go_simp)) ?_
  exact RgAll.nil
 intro v W2 e1 hΦ _
 replace S := S.mono e1
 replace EA := EA.trans e1
 have v1 : v 1 = .bool true := hΦ 1 (by decide)
 simp only [layL, Act.put, uAx, u0x, u1x, Nat.reduceAdd]
 rw [v1]
 clear v1 hΦ e1
 refine wpList_nil ?_
 go_upto_region 3 with (fail)
 have AB9 := AB.ext EA
 have M0 := AB9.m0
 have M1 := AB9.m1
 have M2 := AB9.m2
 have M3 := AB9.m3
 have M4 := AB9.m4
 have N0 := AB9.f 0
 have N1 := AB9.f 1
 have N2 := AB9.f 2
 have N3 := AB9.f 3
 have N4 := AB9.f 4
 have HE := hid S.ext
 clear S EA AB
 go_wp2_with fail
 obtain ⟨W9, hW9, hAt, hbel, _, _⟩ := au_put AB9 none 0 0 false none 0 0 false none 0 0
 rw [hW9]
 have c0 := hAt.m0
 have c1 := hAt.m1
 have c2 := hAt.m2
 have c3 := hAt.m3
 have c4 := hAt.m4
 exact bodyPost_ret (v := .tuple #[auNil, .int .i64 ue]) (by simp [results, Tryz.results17, go_sem, c0, c1, c2, c3, c4, auNil]) rfl ⟨_, rfl, hbel _ _ HE.out (by omega), _, _, rfl, rfl, rfl⟩

set_option maxRecDepth 100000 in
set_option maxHeartbeats 4000000 in
theorem rAudit_b {k1 k2 : Nat} {zd z : Int} {x y : Value} {w : World} (hx : IsI k1 zd x w) (hy : IsI k2 z y w) (HK : Hid (k1 ≤ 162 ∧ k2 ≤ 162)) {ue te : Int} (HTO : Hid (∀ (x y : Value) (w' : World), Ext w w' → IsI k1 zd x w' → IsI k2 z y w' → Calls Tryz.prog 13 #[x, y] w' (Ret w' (IsT2 (IsV (.int .i64 te)) (IsV (.int .i64 ue)))))) (HUB : Hid ((ue != 0) = false)) {c4 : Int} (HC4 : Hid (cmpI z 1024 = c4)) (HC4B : Hid (decide (0 < c4) = true)) : Calls Tryz.prog 17 #[x, y] w (Ret w (IsT2 (IsV auNil) (IsV (.int .i64 (2))))) := by
 obtain ⟨s1, a1, n1, c1, rfl, h1⟩ := hx
 have h1 : IsI _ _ _ w := ⟨_, _, _, _, rfl, h1⟩
 obtain ⟨s2, a2, n2, c2, rfl, h2⟩ := hy
 have h2 : IsI _ _ _ w := ⟨_, _, _, _, rfl, h2⟩
 obtain ⟨W, hW, S, AB⟩ : ∃ W, W = ((w.alloc (.cells #[.bool s1, .slice a1 n1 c1] 33)).alloc (.cells #[.bool s2, .slice a2 n2 c2] 33)).alloc (.cells #[.slice none 0 0, .bool false, .slice none 0 0, .bool false, .slice none 0 0] 48) ∧ Sto w W [((w.heap.size + 1, 0), IsI k2 z), ((w.heap.size, 0), IsI k1 zd)] ∧ AuBox W (w.heap.size + 1 + 1) := ⟨_, rfl, ((((Sto.start w).new1 (w.heap.size) (by simp) s1 a1 n1 c1 33 (IsI k1 zd) (IsI.gstb _ _) (h1)).new1 (w.heap.size + 1) (by simp) s2 a2 n2 c2 33 (IsI k2 z) (IsI.gstb _ _) (h2.ext ((Ext.refl _).alloc _))).mono ((Ext.refl _).alloc _)), AuBox.newE _ _ (by simp)⟩
 clear h1 h2
 have EA := Ext.refl W
 go_enter Tryz.func17, Tryz.ntmps17
 go_upto_region 1 with (fail)
 rw [← hW]
 clear hW
 refine rgs 8 [some 9, some 10, some 11, some 8, some 12, some 13, some 6, some 7] [IsI k1 zd, IsI k2 z, IsT2 (IsV (.int .i64 te)) (IsV (.int .i64 ue)), IsT2 (IsV (.int .i64 te)) (IsV (.int .i64 ue)), IsV (.int .i64 te), IsV (.int .i64 ue), IsV (.int .i64 te), IsV (.int .i64 ue)] [] ?_ ?_
 ·refine Rc (ldI S 1 (w.heap.size) 0 (Od.lit 2) ld_Int) ?_
  refine Rc (ldI S 0 (w.heap.size + 1) 0 (Od.lit 3) ld_Int) ?_
  refine Rc (cl2 (en Tryz.func13) (Od.lc (Φ := IsI k1 zd) 0 9) (Od.lc (Φ := IsI k2 z) 1 10) (fun x0 x1 w' hE d0 d1 => HTO.out _ _ _ (S.ext.trans hE) d0 d1)) ?_
  refine Rc (mv (Od.lc 2 11)) ?_
  refine Rc (ex (Od.loc 3 8) t20) ?_
  refine Rc (ex (Od.loc 3 8) t21) ?_
  refine Rc (mv (Od.lc 4 12)) ?_
  refine Rc (mv (Od.lc 5 13)) ?_
  exact RgAll.nil
 intro v W1 e1 hΦ _
 replace S := S.mono e1
 replace EA := EA.trans e1
 have v6 : v 6 = .int .i64 te := hΦ 6 (by decide)
 have v7 : v 7 = .int .i64 ue := hΦ 7 (by decide)
 simp only [layL, Act.put, uAx, u0x, u1x, Nat.reduceAdd]
 rw [v6, v7]
 clear v6 v7 hΦ e1
 refine wpList_nil ?_
 go_upto_region 2 with (fail)
 refine rgs 2 [some 14, some 15] [IsV (.int .i64 ue), IsV (.bool false)] [] ?_ ?_
 ·refine Rc (mv (Od.lit 7)) ?_
  refine Rc (bn (r := .bool false) (Od.loc 0 14) Od.con (hr := fun w => by have hx9 := HUB.out; go_simp)) ?_
  exact RgAll.nil
 intro v W2 e1 hΦ _
 replace S := S.mono e1
 replace EA := EA.trans e1
 have v1 : v 1 = .bool false := hΦ 1 (by decide)
 simp only [layL, Act.put, uAx, u0x, u1x, Nat.reduceAdd]
 rw [v1]
 clear v1 hΦ e1
 refine wpList_nil ?_
 go_upto_region 4 with (fail)
 refine rg 4 [some 18, some 19, some 20, some 21] [IsI k2 z, IsI 2 1024, IsV (.int .i64 c4), IsV (.bool true)] [] 0 ?_ ?_
 ·refine Rc (ldI S 0 (w.heap.size + 1) 0 (Od.lit 3) ld_Int) ?_
  refine Rc (cl1 (en Tryz.func22) Od.con (fun x0 w' hE d0 => by { obtain rfl : x0 = .int .i64 1024 := d0; exact ROf_f _ 1024 (by decide) (by decide) })) ?_
  refine Rc (cl2 (en Tryz.func31) (Od.lc (Φ := IsI k2 z) 0 18) (Od.lc (Φ := IsI 2 1024) 1 19) (fun x0 x1 w' hE d0 d1 => Calls.mono (RCmp_f d0 d1 (by have := HK.out; omega) (by decide)) fun _ _ h => h.int HC4.out)) ?_
  refine Rc (bn (r := .bool true) (Od.loc 2 20) Od.con (hr := fun w => by have hx9 := HC4B.out; go_simp)) ?_
  exact RgAll.nil
 intro v W3 e1 hΦ _
 replace S := S.mono e1
 replace EA := EA.trans e1
 have v3 : v 3 = .bool true := hΦ 3 (by decide)
 simp only [layL, Act.put, uAx, u0x, u1x, Nat.reduceAdd]
 rw [v3]
 clear v3 hΦ e1
 refine wpAny_done (by kernel_rfl) ?_ _
 go_upto_region 5 with (fail)
 have AB9 := AB.ext EA
 have M0 := AB9.m0
 have M1 := AB9.m1
 have M2 := AB9.m2
 have M3 := AB9.m3
 have M4 := AB9.m4
 have N0 := AB9.f 0
 have N1 := AB9.f 1
 have N2 := AB9.f 2
 have N3 := AB9.f 3
 have N4 := AB9.f 4
 have HE := hid S.ext
 clear S EA AB
 go_wp2_with fail
 obtain ⟨W9, hW9, hAt, hbel, _, _⟩ := au_put AB9 none 0 0 false none 0 0 false none 0 0
 rw [hW9]
 have c0 := hAt.m0
 have c1 := hAt.m1
 have c2 := hAt.m2
 have c3 := hAt.m3
 have c4 := hAt.m4
 exact bodyPost_ret (v := .tuple #[auNil, .int .i64 2]) (by simp [results, Tryz.results17, go_sem, c0, c1, c2, c3, c4, auNil]) rfl ⟨_, rfl, hbel _ _ HE.out (by omega), _, _, rfl, rfl, rfl⟩

set_option maxRecDepth 100000 in
set_option maxHeartbeats 4000000 in
theorem rAudit_k {k1 k2 : Nat} {zd z : Int} {x y : Value} {w : World} (hx : IsI k1 zd x w) (hy : IsI k2 z y w) (HK : Hid (k1 ≤ 162 ∧ k2 ≤ 162)) {ue te : Int} (HTO : Hid (∀ (x y : Value) (w' : World), Ext w w' → IsI k1 zd x w' → IsI k2 z y w' → Calls Tryz.prog 13 #[x, y] w' (Ret w' (IsT2 (IsV (.int .i64 te)) (IsV (.int .i64 ue)))))) (HUB : Hid ((ue != 0) = false)) {c4 : Int} (HC4 : Hid (cmpI z 1024 = c4)) (HC4B : Hid (decide (0 < c4) = false)) (td tn : ByteArray) (HTD : Hid (encS (textS zd) = .string td ∧ textE zd = 0 ∧ td.size ≤ 1000)) (HTN : Hid (encS (textS z) = .string tn ∧ textE z = 0 ∧ tn.size ≤ 1000)) (HTB : Hid (-9223372036854775808 ≤ te ∧ te ≤ 9223372036854775807)) : Calls Tryz.prog 17 #[x, y] w (Ret w (IsT2 (AuV ((⟨#[115, 58]⟩ : ByteArray) ++ td ++ (⟨#[58]⟩ : ByteArray) ++ tn) 2 1 (Rat.divInt te 1)) (IsV (.int .i64 0)))) := by
 obtain ⟨s1, a1, n1, c1, rfl, h1⟩ := hx
 have h1 : IsI _ _ _ w := ⟨_, _, _, _, rfl, h1⟩
 obtain ⟨s2, a2, n2, c2, rfl, h2⟩ := hy
 have h2 : IsI _ _ _ w := ⟨_, _, _, _, rfl, h2⟩
 obtain ⟨W, hW, S, AB⟩ : ∃ W, W = ((w.alloc (.cells #[.bool s1, .slice a1 n1 c1] 33)).alloc (.cells #[.bool s2, .slice a2 n2 c2] 33)).alloc (.cells #[.slice none 0 0, .bool false, .slice none 0 0, .bool false, .slice none 0 0] 48) ∧ Sto w W [((w.heap.size + 1, 0), IsI k2 z), ((w.heap.size, 0), IsI k1 zd)] ∧ AuBox W (w.heap.size + 1 + 1) := ⟨_, rfl, ((((Sto.start w).new1 (w.heap.size) (by simp) s1 a1 n1 c1 33 (IsI k1 zd) (IsI.gstb _ _) (h1)).new1 (w.heap.size + 1) (by simp) s2 a2 n2 c2 33 (IsI k2 z) (IsI.gstb _ _) (h2.ext ((Ext.refl _).alloc _))).mono ((Ext.refl _).alloc _)), AuBox.newE _ _ (by simp)⟩
 clear h1 h2
 have EA := Ext.refl W
 go_enter Tryz.func17, Tryz.ntmps17
 go_upto_region 1 with (fail)
 rw [← hW]
 clear hW
 refine rgs 8 [some 9, some 10, some 11, some 8, some 12, some 13, some 6, some 7] [IsI k1 zd, IsI k2 z, IsT2 (IsV (.int .i64 te)) (IsV (.int .i64 ue)), IsT2 (IsV (.int .i64 te)) (IsV (.int .i64 ue)), IsV (.int .i64 te), IsV (.int .i64 ue), IsV (.int .i64 te), IsV (.int .i64 ue)] [] ?_ ?_
 ·refine Rc (ldI S 1 (w.heap.size) 0 (Od.lit 2) ld_Int) ?_
  refine Rc (ldI S 0 (w.heap.size + 1) 0 (Od.lit 3) ld_Int) ?_
  refine Rc (cl2 (en Tryz.func13) (Od.lc (Φ := IsI k1 zd) 0 9) (Od.lc (Φ := IsI k2 z) 1 10) (fun x0 x1 w' hE d0 d1 => HTO.out _ _ _ (S.ext.trans hE) d0 d1)) ?_
  refine Rc (mv (Od.lc 2 11)) ?_
  refine Rc (ex (Od.loc 3 8) t20) ?_
  refine Rc (ex (Od.loc 3 8) t21) ?_
  refine Rc (mv (Od.lc 4 12)) ?_
  refine Rc (mv (Od.lc 5 13)) ?_
  exact RgAll.nil
 intro v W1 e1 hΦ _
 replace S := S.mono e1
 replace EA := EA.trans e1
 have v6 : v 6 = .int .i64 te := hΦ 6 (by decide)
 have v7 : v 7 = .int .i64 ue := hΦ 7 (by decide)
 simp only [layL, Act.put, uAx, u0x, u1x, Nat.reduceAdd]
 rw [v6, v7]
 clear v6 v7 hΦ e1
 refine wpList_nil ?_
 go_upto_region 2 with (fail)
 refine rgs 2 [some 14, some 15] [IsV (.int .i64 ue), IsV (.bool false)] [] ?_ ?_
 ·refine Rc (mv (Od.lit 7)) ?_
  refine Rc (bn (r := .bool false) (Od.loc 0 14) Od.con (hr := fun w => by have hx9 := HUB.out; go_simp)) ?_
  exact RgAll.nil
 intro v W2 e1 hΦ _
 replace S := S.mono e1
 replace EA := EA.trans e1
 have v1 : v 1 = .bool false := hΦ 1 (by decide)
 simp only [layL, Act.put, uAx, u0x, u1x, Nat.reduceAdd]
 rw [v1]
 clear v1 hΦ e1
 refine wpList_nil ?_
 go_upto_region 4 with (fail)
 refine rg 4 [some 18, some 19, some 20, some 21] [IsI k2 z, IsI 2 1024, IsV (.int .i64 c4), IsV (.bool false)] [] 0 ?_ ?_
 ·refine Rc (ldI S 0 (w.heap.size + 1) 0 (Od.lit 3) ld_Int) ?_
  refine Rc (cl1 (en Tryz.func22) Od.con (fun x0 w' hE d0 => by { obtain rfl : x0 = .int .i64 1024 := d0; exact ROf_f _ 1024 (by decide) (by decide) })) ?_
  refine Rc (cl2 (en Tryz.func31) (Od.lc (Φ := IsI k2 z) 0 18) (Od.lc (Φ := IsI 2 1024) 1 19) (fun x0 x1 w' hE d0 d1 => Calls.mono (RCmp_f d0 d1 (by have := HK.out; omega) (by decide)) fun _ _ h => h.int HC4.out)) ?_
  refine Rc (bn (r := .bool false) (Od.loc 2 20) Od.con (hr := fun w => by have hx9 := HC4B.out; go_simp)) ?_
  exact RgAll.nil
 intro v W3 e1 hΦ _
 replace S := S.mono e1
 replace EA := EA.trans e1
 have v3 : v 3 = .bool false := hΦ 3 (by decide)
 simp only [layL, Act.put, uAx, u0x, u1x, Nat.reduceAdd]
 rw [v3]
 clear v3 hΦ e1
 refine wpAny_done (by kernel_rfl) ?_ _
 go_upto_region 6 with (fail)
 have HB := hid (show 2 + td.size ≤ 9223372036854775807 ∧ 2 + td.size + 1 ≤ 9223372036854775807 ∧ 2 + td.size + 1 + tn.size ≤ 9223372036854775807 by have := HTD.out.2.2; have := HTN.out.2.2; omega)
 refine rg 9 [some 23, some 24, some 25, some 26, some 27, some 28, some 29, some 30, some 31] [IsI k1 zd, IsV (.string td), IsV (.string ((⟨#[115, 58]⟩ : ByteArray) ++ td)), IsV (.string ((⟨#[115, 58]⟩ : ByteArray) ++ td ++ (⟨#[58]⟩ : ByteArray))), IsI k2 z, IsV (.string tn), IsV (.string ((⟨#[115, 58]⟩ : ByteArray) ++ td ++ (⟨#[58]⟩ : ByteArray) ++ tn)), IsV (.int .i64 te), AuV ((⟨#[115, 58]⟩ : ByteArray) ++ td ++ (⟨#[58]⟩ : ByteArray) ++ tn) 2 1 (Rat.divInt te 1)] [] 2 ?_ ?_ (hst := by repeat' (first | exact trivial | exact AuV.stb _ _ _ _ | exact IsV.stb _ | exact IsI.stb _ _ | exact IsBo.stb _ _ | apply IsT2.stb | apply IsT3.stb | apply IsJ.stb | apply IsQ.stb | apply IsF.stb | apply And.intro))
 ·refine Rc (ldI S 1 (w.heap.size) 0 (Od.lit 2) ld_Int) ?_
  refine Rc (cl1 (en Tryz.func60) (Od.lc (Φ := IsI k1 zd) 0 23) (fun x0 w' hE d0 => rtext_f d0 (hid (by have := HK.out; omega)) td HTD)) ?_
  refine Rc (bn (r := .string ((⟨#[115, 58]⟩ : ByteArray) ++ td)) Od.con (Od.loc 1 24) (hr := fun w => by have ht9 := HB.out.1; have ht8 := HB.out.2.1; have ht7 := HB.out.2.2; go_simp)) ?_
  refine Rc (bn (r := .string ((⟨#[115, 58]⟩ : ByteArray) ++ td ++ (⟨#[58]⟩ : ByteArray))) (Od.loc 2 25) Od.con (hr := fun w => by have ht9 := HB.out.1; have ht8 := HB.out.2.1; have ht7 := HB.out.2.2; go_simp)) ?_
  refine Rc (ldI S 0 (w.heap.size + 1) 0 (Od.lit 3) ld_Int) ?_
  refine Rc (cl1 (en Tryz.func60) (Od.lc (Φ := IsI k2 z) 4 27) (fun x0 w' hE d0 => rtext_f d0 (hid (by have := HK.out; omega)) tn HTN)) ?_
  refine Rc (bn (r := .string ((⟨#[115, 58]⟩ : ByteArray) ++ td ++ (⟨#[58]⟩ : ByteArray) ++ tn)) (Od.loc 3 26) (Od.loc 5 28) (hr := fun w => by have ht9 := HB.out.1; have ht8 := HB.out.2.1; have ht7 := HB.out.2.2; go_simp)) ?_
  refine Rc (mv (Od.lit 6)) ?_
  refine Rc (cl2 (en Tryz.func59) (Od.lc (Φ := IsV (.string ((⟨#[115, 58]⟩ : ByteArray) ++ td ++ (⟨#[58]⟩ : ByteArray) ++ tn))) 6 29) (Od.lc (Φ := IsV (.int .i64 te)) 7 30) (fun x0 x1 w' hE d0 d1 => by { obtain rfl : x0 = .string ((⟨#[115, 58]⟩ : ByteArray) ++ td ++ (⟨#[58]⟩ : ByteArray) ++ tn) := d0; obtain rfl : x1 = .int .i64 te := d1; exact single_f w' ((⟨#[115, 58]⟩ : ByteArray) ++ td ++ (⟨#[58]⟩ : ByteArray) ++ tn) te HTB.out })) ?_
  exact RgAll.nil
 intro v W4 e1 hΦ _
 replace S := S.mono e1
 replace EA := EA.trans e1
 obtain ⟨u31, hu31, k31⟩ : ∃ vv_, v 8 = vv_ ∧ (AuV ((⟨#[115, 58]⟩ : ByteArray) ++ td ++ (⟨#[58]⟩ : ByteArray) ++ tn) 2 1 (Rat.divInt te 1)) vv_ W4 := ⟨_, rfl, hΦ 8 (by decide)⟩
 simp only [layL, Act.put, uAx, u0x, u1x, Nat.reduceAdd]
 rw [hu31]
 clear hu31 hΦ e1
 refine wpAny_seqL 9 (by simp only [List.drop_succ_cons, List.drop_zero]; rfl) rfl (by kernel_rfl) ?_
 obtain ⟨gp, sA, aA, nA, cA, sB, aB, nB, cB, hu9, hA, hP⟩ := k31
 rw [hu9]
 have AB10 := AB.ext EA
 have P0 := AB10.m0
 have P1 := AB10.m1
 have P2 := AB10.m2
 have P3 := AB10.m3
 have P4 := AB10.m4
 have Q0 := AB10.f 0
 have Q1 := AB10.f 1
 have Q2 := AB10.f 2
 have Q3 := AB10.f 3
 have Q4 := AB10.f 4
 have HE := hid S.ext
 have HWs := S.ext.size
 clear S EA AB
 refine wpList_step fun K hK => ?_; go_simp; refine hK _ _ ?_; clear hK K
 obtain ⟨W9, hW9, hAt, hbel, hoth, hgr⟩ := au_put AB10 (some ⟨gp, 0, none⟩) 1 1 sA aA nA cA sB aB nB cB
 rw [hW9]
 try simp only [Act.put, uAx, u0x, u1x, Nat.reduceAdd]
 refine wpList_step fun K hK => ?_; go_simp; refine hK _ _ ?_; clear hK K
 refine wpList_nil ?_
 go_wp2_with fail
 have c0 := hAt.m0
 have c1 := hAt.m1
 have c2 := hAt.m2
 have c3 := hAt.m3
 have c4 := hAt.m4
 have hP9 := hP.put AB10 hoth hgr
 have hA9 := IsQ.gstb (IsI.gstb _ _) (IsI.gstb _ _) _ _ _ hgr hA
 exact bodyPost_ret (v := .tuple #[.agg #[.slice (some ⟨gp, 0, none⟩) 1 1, .bool sA, .slice aA nA cA, .bool sB, .slice aB nB cB], .int .i64 0]) (by simp [results, Tryz.results17, go_sem, c0, c1, c2, c3, c4]) rfl ⟨_, rfl, hbel _ _ HE.out (by omega), _, _, rfl, ⟨_, _, _, _, _, _, _, _, _, rfl, hA9, hP9⟩, rfl⟩

end Go.Proofs.YtknffgdbdadpcaaGreatDoor
