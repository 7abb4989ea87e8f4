/-
 Package density: Audit, at a discriminant. (Printed by wip/gen/den15.py.)
 Package density where the number is no discriminant (d >= 0); SameList of the reference of package genus. (Printed by wip/gen/den16.py.)
-/
import Derived.Test.YtknffgdbdadpcaaGreatDoorDen14
namespace Go.Proofs.YtknffgdbdadpcaaGreatDoor
open Go Go.RowKit

set_option maxRecDepth 100000 in
set_option maxHeartbeats 4000000 in
theorem Audit_b {k1 k2 n L : Nat} {z : Int} {x y : Value} {w : World} (hx : IsI k1 (-((n : Nat) : Int)) x w) (hy : IsI k2 z y w) (HK : Hid (k1 ≤ 162 ∧ k2 ≤ 162)) (HSG : Hid (Sg w)) (HNN : Hid (1 ≤ n ∧ n ≤ 4194304 ∧ (n % 4 = 0 ∨ n % 4 = 3))) (HL : Hid (L * L ≤ n ∧ n < (L + 1) * (L + 1))) {ue te : Int} (HU : Hid (unsE (cdB n L) z = ue)) (HTE : Hid (totE n L z = te)) (HUB : Hid ((ue != 0) = false)) {c4 : Int} (HC4 : Hid (cmpI z 1024 = c4)) (HC4B : Hid (decide (0 < c4) = true)) : Calls Tryz.prog 16 #[x, y] w (Ret w (IsT2 (IsV auNil) (IsV (.int .i64 (2))))) := by
 obtain ⟨s1, a1, n1, c1, rfl, h1⟩ := hx
 have h1 : IsI _ _ _ w := ⟨_, _, _, _, rfl, h1⟩
 obtain ⟨s2, a2, n2, c2, rfl, h2⟩ := hy
 have h2 : IsI _ _ _ w := ⟨_, _, _, _, rfl, h2⟩
 obtain ⟨W, hW, S, AB⟩ : ∃ W, W = ((w.alloc (.cells #[.bool s1, .slice a1 n1 c1] 33)).alloc (.cells #[.bool s2, .slice a2 n2 c2] 33)).alloc (.cells #[.slice none 0 0, .bool false, .slice none 0 0, .bool false, .slice none 0 0] 48) ∧ Sto w W [((w.heap.size + 1, 0), IsI k2 z), ((w.heap.size, 0), IsI k1 (-((n : Nat) : Int)))] ∧ AuBox W (w.heap.size + 1 + 1) := ⟨_, rfl, ((((Sto.start w).new1 (w.heap.size) (by simp) s1 a1 n1 c1 33 (IsI k1 (-((n : Nat) : Int))) (IsI.gstb _ _) (h1)).new1 (w.heap.size + 1) (by simp) s2 a2 n2 c2 33 (IsI k2 z) (IsI.gstb _ _) (h2.ext ((Ext.refl _).alloc _))).mono ((Ext.refl _).alloc _)), AuBox.newE _ _ (by simp)⟩
 clear h1 h2
 have EA := Ext.refl W
 go_enter Tryz.func16, Tryz.ntmps16
 go_upto_region 1 with (fail)
 rw [← hW]
 clear hW
 refine rgs 8 [some 13, some 14, some 15, some 12, some 16, some 17, some 6, some 7] [IsI k1 (-((n : Nat) : Int)), IsI k2 z, IsT2 (IsV (.int .i64 te)) (IsV (.int .i64 ue)), IsT2 (IsV (.int .i64 te)) (IsV (.int .i64 ue)), IsV (.int .i64 te), IsV (.int .i64 ue), IsV (.int .i64 te), IsV (.int .i64 ue)] [] ?_ ?_
 ·refine Rc (ldI S 1 (w.heap.size) 0 (Od.lit 2) ld_Int) ?_
  refine Rc (ldI S 0 (w.heap.size + 1) 0 (Od.lit 3) ld_Int) ?_
  refine Rc (cl2 (en Tryz.func12) (Od.lc (Φ := IsI k1 (-((n : Nat) : Int))) 0 13) (Od.lc (Φ := IsI k2 z) 1 14) (fun x0 x1 w' hE d0 d1 => (by have hh := Total_f d0 d1 (by have := HK.out; omega) (HSG.out.ext (S.ext.trans hE)) HNN.out HL.out; rw [HU.out, HTE.out] at hh; exact hh))) ?_
  refine Rc (mv (Od.lc 2 15)) ?_
  refine Rc (ex (Od.loc 3 12) t20) ?_
  refine Rc (ex (Od.loc 3 12) t21) ?_
  refine Rc (mv (Od.lc 4 16)) ?_
  refine Rc (mv (Od.lc 5 17)) ?_
  exact RgAll.nil
 intro v W1 e1 hΦ _
 replace S := S.mono e1
 replace EA := EA.trans e1
 have v6 : v 6 = .int .i64 te := hΦ 6 (by decide)
 have v7 : v 7 = .int .i64 ue := hΦ 7 (by decide)
 simp only [layL, Act.put, uAx, u0x, u1x, Nat.reduceAdd]
 rw [v6, v7]
 clear v6 v7 hΦ e1
 refine wpList_nil ?_
 go_upto_region 2 with (fail)
 refine rgs 2 [some 18, some 19] [IsV (.int .i64 ue), IsV (.bool false)] [] ?_ ?_
 ·refine Rc (mv (Od.lit 7)) ?_
  refine Rc (bn (r := .bool false) (Od.loc 0 18) Od.con (hr := fun w => by have hx9 := HUB.out; go_simp)) ?_
  exact RgAll.nil
 intro v W2 e1 hΦ _
 replace S := S.mono e1
 replace EA := EA.trans e1
 have v1 : v 1 = .bool false := hΦ 1 (by decide)
 simp only [layL, Act.put, uAx, u0x, u1x, Nat.reduceAdd]
 rw [v1]
 clear v1 hΦ e1
 refine wpList_nil ?_
 go_upto_region 4 with (fail)
 refine rg 4 [some 22, some 23, some 24, some 25] [IsI k2 z, IsI 2 1024, IsV (.int .i64 c4), IsV (.bool true)] [] 0 ?_ ?_
 ·refine Rc (ldI S 0 (w.heap.size + 1) 0 (Od.lit 3) ld_Int) ?_
  refine Rc (cl1 (en Tryz.func41) Od.con (fun x0 w' hE d0 => by { obtain rfl : x0 = .int .i64 1024 := d0; exact Of_f _ 1024 (by decide) (by decide) })) ?_
  refine Rc (cl2 (en Tryz.func52) (Od.lc (Φ := IsI k2 z) 0 22) (Od.lc (Φ := IsI 2 1024) 1 23) (fun x0 x1 w' hE d0 d1 => Calls.mono (Cmp_f d0 d1 (by have := HK.out; omega) (by decide)) fun _ _ h => h.int HC4.out)) ?_
  refine Rc (bn (r := .bool true) (Od.loc 2 24) Od.con (hr := fun w => by have hx9 := HC4B.out; go_simp)) ?_
  exact RgAll.nil
 intro v W3 e1 hΦ _
 replace S := S.mono e1
 replace EA := EA.trans e1
 have v3 : v 3 = .bool true := hΦ 3 (by decide)
 simp only [layL, Act.put, uAx, u0x, u1x, Nat.reduceAdd]
 rw [v3]
 clear v3 hΦ e1
 refine wpAny_done (by kernel_rfl) ?_ _
 go_upto_region 5 with (fail)
 have AB9 := AB.ext EA
 have M0 := AB9.m0
 have M1 := AB9.m1
 have M2 := AB9.m2
 have M3 := AB9.m3
 have M4 := AB9.m4
 have N0 := AB9.f 0
 have N1 := AB9.f 1
 have N2 := AB9.f 2
 have N3 := AB9.f 3
 have N4 := AB9.f 4
 have HE := hid S.ext
 clear S EA AB
 go_wp2_with fail
 obtain ⟨W9, hW9, hAt, hbel, _, _⟩ := au_put AB9 none 0 0 false none 0 0 false none 0 0
 rw [hW9]
 have c0 := hAt.m0
 have c1 := hAt.m1
 have c2 := hAt.m2
 have c3 := hAt.m3
 have c4 := hAt.m4
 exact bodyPost_ret (v := .tuple #[auNil, .int .i64 2]) (by simp [results, Tryz.results16, go_sem, c0, c1, c2, c3, c4, auNil]) rfl ⟨_, rfl, hbel _ _ HE.out (by omega), _, _, rfl, rfl, rfl⟩

set_option maxRecDepth 100000 in
set_option maxHeartbeats 4000000 in
theorem Audit_k {k1 k2 n L : Nat} {z : Int} {x y : Value} {w : World} (hx : IsI k1 (-((n : Nat) : Int)) x w) (hy : IsI k2 z y w) (HK : Hid (k1 ≤ 162 ∧ k2 ≤ 162)) (HSG : Hid (Sg w)) (HNN : Hid (1 ≤ n ∧ n ≤ 4194304 ∧ (n % 4 = 0 ∨ n % 4 = 3))) (HL : Hid (L * L ≤ n ∧ n < (L + 1) * (L + 1))) {ue te : Int} (HU : Hid (unsE (cdB n L) z = ue)) (HTE : Hid (totE n L z = te)) (HUB : Hid ((ue != 0) = false)) {c4 : Int} (HC4 : Hid (cmpI z 1024 = c4)) (HC4B : Hid (decide (0 < c4) = false)) (HT : Hid (Tab w)) (td tn : ByteArray) (HTD : Hid (encS (textS (-((n : Nat) : Int))) = .string td ∧ textE (-((n : Nat) : Int)) = 0 ∧ td.size ≤ 1000)) (HTN : Hid (encS (textS z) = .string tn ∧ textE z = 0 ∧ tn.size ≤ 1000)) (HTB : Hid (-9223372036854775808 ≤ te ∧ te ≤ 9223372036854775807)) : Calls Tryz.prog 16 #[x, y] w (Ret w (IsT2 (AuV ((⟨#[115, 58]⟩ : ByteArray) ++ td ++ (⟨#[58]⟩ : ByteArray) ++ tn) 4 1 (Rat.divInt te 1)) (IsV (.int .i64 0)))) := by
 obtain ⟨s1, a1, n1, c1, rfl, h1⟩ := hx
 have h1 : IsI _ _ _ w := ⟨_, _, _, _, rfl, h1⟩
 obtain ⟨s2, a2, n2, c2, rfl, h2⟩ := hy
 have h2 : IsI _ _ _ w := ⟨_, _, _, _, rfl, h2⟩
 obtain ⟨W, hW, S, AB⟩ : ∃ W, W = ((w.alloc (.cells #[.bool s1, .slice a1 n1 c1] 33)).alloc (.cells #[.bool s2, .slice a2 n2 c2] 33)).alloc (.cells #[.slice none 0 0, .bool false, .slice none 0 0, .bool false, .slice none 0 0] 48) ∧ Sto w W [((w.heap.size + 1, 0), IsI k2 z), ((w.heap.size, 0), IsI k1 (-((n : Nat) : Int)))] ∧ AuBox W (w.heap.size + 1 + 1) := ⟨_, rfl, ((((Sto.start w).new1 (w.heap.size) (by simp) s1 a1 n1 c1 33 (IsI k1 (-((n : Nat) : Int))) (IsI.gstb _ _) (h1)).new1 (w.heap.size + 1) (by simp) s2 a2 n2 c2 33 (IsI k2 z) (IsI.gstb _ _) (h2.ext ((Ext.refl _).alloc _))).mono ((Ext.refl _).alloc _)), AuBox.newE _ _ (by simp)⟩
 clear h1 h2
 have EA := Ext.refl W
 go_enter Tryz.func16, Tryz.ntmps16
 go_upto_region 1 with (fail)
 rw [← hW]
 clear hW
 refine rgs 8 [some 13, some 14, some 15, some 12, some 16, some 17, some 6, some 7] [IsI k1 (-((n : Nat) : Int)), IsI k2 z, IsT2 (IsV (.int .i64 te)) (IsV (.int .i64 ue)), IsT2 (IsV (.int .i64 te)) (IsV (.int .i64 ue)), IsV (.int .i64 te), IsV (.int .i64 ue), IsV (.int .i64 te), IsV (.int .i64 ue)] [] ?_ ?_
 ·refine Rc (ldI S 1 (w.heap.size) 0 (Od.lit 2) ld_Int) ?_
  refine Rc (ldI S 0 (w.heap.size + 1) 0 (Od.lit 3) ld_Int) ?_
  refine Rc (cl2 (en Tryz.func12) (Od.lc (Φ := IsI k1 (-((n : Nat) : Int))) 0 13) (Od.lc (Φ := IsI k2 z) 1 14) (fun x0 x1 w' hE d0 d1 => (by have hh := Total_f d0 d1 (by have := HK.out; omega) (HSG.out.ext (S.ext.trans hE)) HNN.out HL.out; rw [HU.out, HTE.out] at hh; exact hh))) ?_
  refine Rc (mv (Od.lc 2 15)) ?_
  refine Rc (ex (Od.loc 3 12) t20) ?_
  refine Rc (ex (Od.loc 3 12) t21) ?_
  refine Rc (mv (Od.lc 4 16)) ?_
  refine Rc (mv (Od.lc 5 17)) ?_
  exact RgAll.nil
 intro v W1 e1 hΦ _
 replace S := S.mono e1
 replace EA := EA.trans e1
 have v6 : v 6 = .int .i64 te := hΦ 6 (by decide)
 have v7 : v 7 = .int .i64 ue := hΦ 7 (by decide)
 simp only [layL, Act.put, uAx, u0x, u1x, Nat.reduceAdd]
 rw [v6, v7]
 clear v6 v7 hΦ e1
 refine wpList_nil ?_
 go_upto_region 2 with (fail)
 refine rgs 2 [some 18, some 19] [IsV (.int .i64 ue), IsV (.bool false)] [] ?_ ?_
 ·refine Rc (mv (Od.lit 7)) ?_
  refine Rc (bn (r := .bool false) (Od.loc 0 18) Od.con (hr := fun w => by have hx9 := HUB.out; go_simp)) ?_
  exact RgAll.nil
 intro v W2 e1 hΦ _
 replace S := S.mono e1
 replace EA := EA.trans e1
 have v1 : v 1 = .bool false := hΦ 1 (by decide)
 simp only [layL, Act.put, uAx, u0x, u1x, Nat.reduceAdd]
 rw [v1]
 clear v1 hΦ e1
 refine wpList_nil ?_
 go_upto_region 4 with (fail)
 refine rg 4 [some 22, some 23, some 24, some 25] [IsI k2 z, IsI 2 1024, IsV (.int .i64 c4), IsV (.bool false)] [] 0 ?_ ?_
 ·refine Rc (ldI S 0 (w.heap.size + 1) 0 (Od.lit 3) ld_Int) ?_
  refine Rc (cl1 (en Tryz.func41) Od.con (fun x0 w' hE d0 => by { obtain rfl : x0 = .int .i64 1024 := d0; exact Of_f _ 1024 (by decide) (by decide) })) ?_
  refine Rc (cl2 (en Tryz.func52) (Od.lc (Φ := IsI k2 z) 0 22) (Od.lc (Φ := IsI 2 1024) 1 23) (fun x0 x1 w' hE d0 d1 => Calls.mono (Cmp_f d0 d1 (by have := HK.out; omega) (by decide)) fun _ _ h => h.int HC4.out)) ?_
  refine Rc (bn (r := .bool false) (Od.loc 2 24) Od.con (hr := fun w => by have hx9 := HC4B.out; go_simp)) ?_
  exact RgAll.nil
 intro v W3 e1 hΦ _
 replace S := S.mono e1
 replace EA := EA.trans e1
 have v3 : v 3 = .bool false := hΦ 3 (by decide)
 simp only [layL, Act.put, uAx, u0x, u1x, Nat.reduceAdd]
 rw [v3]
 clear v3 hΦ e1
 refine wpAny_done (by kernel_rfl) ?_ _
 go_upto_region 6 with (fail)
 refine rgs 7 [some 28, some 29, some 27, some 30, some 31, some 8, some 9] [IsI k1 (-((n : Nat) : Int)), IsT2 (IsV (.string td)) (IsV (.int .i64 0)), IsT2 (IsV (.string td)) (IsV (.int .i64 0)), IsV (.string td), IsV (.int .i64 0), IsV (.string td), IsV (.int .i64 0)] [] ?_ ?_
 ·refine Rc (ldI S 1 (w.heap.size) 0 (Od.lit 2) ld_Int) ?_
  refine Rc (cl1 (en Tryz.func57) (Od.lc (Φ := IsI k1 (-((n : Nat) : Int))) 0 28) (fun x0 w' hE d0 => (by have hh := Text_f d0 (by have := HK.out; omega) (HT.out.ext (S.ext.trans hE)); rw [HTD.out.1, HTD.out.2.1] at hh; exact hh))) ?_
  refine Rc (mv (Od.lc 1 29)) ?_
  refine Rc (ex (Od.loc 2 27) t20) ?_
  refine Rc (ex (Od.loc 2 27) t21) ?_
  refine Rc (mv (Od.lc 3 30)) ?_
  refine Rc (mv (Od.lc 4 31)) ?_
  exact RgAll.nil
 intro v W4 e1 hΦ _
 replace S := S.mono e1
 replace EA := EA.trans e1
 have v5 : v 5 = .string td := hΦ 5 (by decide)
 simp only [layL, Act.put, uAx, u0x, u1x, Nat.reduceAdd]
 rw [v5]
 clear v5 hΦ e1
 refine wpList_nil ?_
 go_upto_region 7 with (fail)
 refine rgs 7 [some 33, some 34, some 32, some 35, some 36, some 10, some 11] [IsI k2 z, IsT2 (IsV (.string tn)) (IsV (.int .i64 0)), IsT2 (IsV (.string tn)) (IsV (.int .i64 0)), IsV (.string tn), IsV (.int .i64 0), IsV (.string tn), IsV (.int .i64 0)] [] ?_ ?_
 ·refine Rc (ldI S 0 (w.heap.size + 1) 0 (Od.lit 3) ld_Int) ?_
  refine Rc (cl1 (en Tryz.func57) (Od.lc (Φ := IsI k2 z) 0 33) (fun x0 w' hE d0 => (by have hh := Text_f d0 (by have := HK.out; omega) (HT.out.ext (S.ext.trans hE)); rw [HTN.out.1, HTN.out.2.1] at hh; exact hh))) ?_
  refine Rc (mv (Od.lc 1 34)) ?_
  refine Rc (ex (Od.loc 2 32) t20) ?_
  refine Rc (ex (Od.loc 2 32) t21) ?_
  refine Rc (mv (Od.lc 3 35)) ?_
  refine Rc (mv (Od.lc 4 36)) ?_
  exact RgAll.nil
 intro v W5 e1 hΦ _
 replace S := S.mono e1
 replace EA := EA.trans e1
 have v5 : v 5 = .string tn := hΦ 5 (by decide)
 simp only [layL, Act.put, uAx, u0x, u1x, Nat.reduceAdd]
 rw [v5]
 clear v5 hΦ e1
 refine wpList_nil ?_
 go_upto_region 8 with (fail)
 have HB := hid (show td.size + 2 ≤ 9223372036854775807 ∧ td.size + 2 + 1 ≤ 9223372036854775807 ∧ td.size + 2 + 1 + tn.size ≤ 9223372036854775807 by have := HTD.out.2.2; have := HTN.out.2.2; omega)
 have AB9 := AB.ext EA
 have M0 := AB9.m0
 have M1 := AB9.m1
 have M2 := AB9.m2
 have M3 := AB9.m3
 have M4 := AB9.m4
 have N0 := AB9.f 0
 have N1 := AB9.f 1
 have N2 := AB9.f 2
 have N3 := AB9.f 3
 have N4 := AB9.f 4
 have HE := hid S.ext
 have ht9 := HB.out.1
 have ht8 := HB.out.2.1
 have ht7 := HB.out.2.2
 clear S EA
 go_wp2_with (go_at_call 58; go_must (refine Calls.mono (one_f _ _ _ HTB.out) ?_; rintro e w9 ⟨_, rfl, E9, _, _, rfl, ⟨gp, sA, aA, nA, cA, sB, aB, nB, cB, rfl, hA, hP⟩, rfl⟩; have AB10 := AB9.ext E9; have P0 := AB10.m0; have P1 := AB10.m1; have P2 := AB10.m2; have P3 := AB10.m3; have P4 := AB10.m4; have Q0 := AB10.f 0; have Q1 := AB10.f 1; have Q2 := AB10.f 2; have Q3 := AB10.f 3; have Q4 := AB10.f 4))
 obtain ⟨W9, hW9, hAt, hbel, hoth, hgr⟩ := au_put AB10 (some ⟨gp, 0, none⟩) 1 1 sA aA nA cA sB aB nB cB
 rw [hW9]
 have c0 := hAt.m0
 have c1 := hAt.m1
 have c2 := hAt.m2
 have c3 := hAt.m3
 have c4 := hAt.m4
 have hP9 := hP.put AB10 hoth hgr
 have hA9 := IsQ.gstb (IsI.gstb _ _) (IsI.gstb _ _) _ _ _ hgr hA
 exact bodyPost_ret (v := .tuple #[.agg #[.slice (some ⟨gp, 0, none⟩) 1 1, .bool sA, .slice aA nA cA, .bool sB, .slice aB nB cB], .int .i64 0]) (by simp [results, Tryz.results16, go_sem, c0, c1, c2, c3, c4]) rfl ⟨_, rfl, hbel _ _ (HE.out.trans E9) (by omega), _, _, rfl, ⟨_, _, _, _, _, _, _, _, _, rfl, hA9, hP9⟩, rfl⟩
end Go.Proofs.YtknffgdbdadpcaaGreatDoor
namespace Go.Proofs.YtknffgdbdadpcaaGreatDoor
open Go Go.RowKit

set_option maxRecDepth 100000 in
set_option maxHeartbeats 4000000 in
theorem drefused_p {k1 : Nat} {z : Int} {x : Value} {w : World} (hx : IsI k1 z x w) (l1 : k1 ≤ 16777216) (hz : 0 ≤ z) : Calls Tryz.prog 61 #[x] w (Ret w (IsV (.int .i64 5))) := by
 have HK := hid l1
 obtain ⟨q, hq⟩ : ∃ x, z / 4 = x := ⟨_, rfl⟩
 obtain ⟨r, hr⟩ : ∃ x, z % 4 = x := ⟨_, rfl⟩
 have HQR := hid (And.intro hq hr)
 obtain ⟨sg, hsg⟩ : ∃ x, z.sign = x := ⟨_, rfl⟩
 have HSG := hid hsg
 have HSB := hid (show 0 ≤ sg by rw [← hsg]; exact Int.sign_nonneg_iff.2 hz)
 clear l1 hz hq hr hsg
 obtain ⟨s1, a1, n1, c1, rfl, h1⟩ := hx
 have h1 : IsI _ _ _ w := ⟨_, _, _, _, rfl, h1⟩
 obtain ⟨W, hW, S⟩ : ∃ W, W = w.alloc (.cells #[.bool s1, .slice a1 n1 c1] 33) ∧ Sto w W [((w.heap.size, 0), IsI k1 z)] := ⟨_, rfl, ((Sto.start w).new1 (w.heap.size) (by simp) s1 a1 n1 c1 33 (IsI k1 z) (IsI.gstb _ _) (h1))⟩
 clear h1
 go_enter Tryz.func61, Tryz.ntmps61
 go_upto_region 1 with (fail)
 rw [← hW]
 clear hW
 have hl := hid S.lt; have hw := S.ext.size
 refine rgn 12 [some 7, some 8, some 9, some 6, some 10, some 11, some 12, some 3, some 4, none, none, some 5] [IsI k1 z, IsI 2 4, IsT3 (IsI k1 q) (IsI 2 r) (IsV (.int .i64 0)), IsT3 (IsI k1 q) (IsI 2 r) (IsV (.int .i64 0)), IsI k1 q, IsI 2 r, IsV (.int .i64 0), IsNw W 1, IsNw W 1, TT, TT, IsV (.int .i64 0)] [7, 8] [none, none, none, none, none, none, none, none, none, some (7, [IsI k1 q]), some (8, [IsI 2 r]), none] [none, none, none, none, none, none, none, none, none, some 7, some 8, none] 0 ?_ ?_
 ·refine RcK (ldI S 0 (w.heap.size) 0 (Od.lit 1) ld_Int) ?_
  refine RcK (cl1 (en Tryz.func41) Od.con (fun x0 w' hE d0 => by { obtain rfl : x0 = .int .i64 4 := d0; exact Of_f _ 4 (by decide) (by decide) })) ?_
  refine RcK (cl2 (en Tryz.func111) (Od.lc (Φ := IsI k1 z) 0 7) (Od.lc (Φ := IsI 2 4) 1 8) (fun x0 x1 w' hE d0 d1 => (by have hh := DivMod_f d0 d1 (by have := HK.out; omega) (by decide) (by decide); rw [HQR.out.1, HQR.out.2] at hh; exact hh))) ?_
  refine RcK (mv (Od.lc 2 9)) ?_
  refine RcK (ex (Od.loc 3 6) t30) ?_
  refine RcK (ex (Od.loc 3 6) t31) ?_
  refine RcK (ex (Od.loc 3 6) t32) ?_
  refine RcK (alN al_Int) ?_
  refine RcK (alN al_Int) ?_
  refine RcS 7 (sI st_Int (Od.lc (Φ := IsI k1 q) 4 10)) ?_
  refine RcS 8 (sI st_Int (Od.lc (Φ := IsI 2 r) 5 11)) ?_
  refine RcK (mv (Od.lc 6 12)) ?_
  exact RgAllN.nil
 intro v W1 e1 hΦ hS hne
 replace S := S.mono e1
 obtain ⟨g3, v7, q1, S2⟩ := S.addI (hΦ 7 (by decide) rfl) (hS 9 (by decide) _ _ rfl) hw (IsI.gstb _ _)
 replace S := S2 (ApartO.old hl.out q1); clear S2
 obtain ⟨g4, v8, q2, S2⟩ := S.addI (hΦ 8 (by decide) rfl) (hS 10 (by decide) _ _ rfl) hw (IsI.gstb _ _)
 replace S := S2 (ApartO.cons (fun h => hne 7 8 (by decide) (by decide) (by decide) (by decide) (by decide) rfl rfl (by rw [v7, v8, h])) (ApartO.old hl.out q2)); clear S2
 simp only [layL, Act.put, uAx, u0x, u1x, Nat.reduceAdd]
 rw [v7, v8]
 clear hl hw hne v7 v8 hΦ hS e1
 refine wpAny_done (by kernel_rfl) ?_ _
 go_upto_region 2 with (fail)
 refine rg 10 [some 14, some 15, some 16, some 17, some 18, some 19, some 20, some 21, some 22, some 13] [IsI k1 z, IsV (.int .i64 sg), IsV (.bool true), IsV (.bool true), IsV (undef), IsV (undef), IsV (undef), IsV (undef), IsV (.bool true), IsV (.bool true)] [] 0 ?_ ?_
 ·refine Rc (ldI S 2 (w.heap.size) 0 (Od.lit 1) ld_Int) ?_
  refine Rc (cl1 (en Tryz.func84) (Od.lc (Φ := IsI k1 z) 0 14) (fun x0 w' hE d0 => Calls.mono (Sign_f d0) fun _ _ h => h.int HSG.out)) ?_
  refine Rc (bn (r := .bool true) (Od.loc 1 15) Od.con (hr := fun w => by have hx9 := HSB.out; go_simp)) ?_
  refine Rc (mv (Od.lc 2 16)) ?_
  refine RcN 3 17 true ?_
  refine RcN 3 17 true ?_
  refine RcN 3 17 true ?_
  refine RcN 3 17 true ?_
  refine Rc (pk (Od.loc 3 17) Od.con) ?_
  refine Rc (mv (Od.lc 8 22)) ?_
  exact RgAll.nil
 intro v W2 e1 hΦ _
 replace S := S.mono e1
 have v9 : v 9 = .bool true := hΦ 9 (by decide)
 simp only [layL, Act.put, uAx, u0x, u1x, Nat.reduceAdd]
 rw [v9]
 clear v9 hΦ e1
 refine wpAny_done (by kernel_rfl) ?_ _
 go_upto_region 3 with (fail)
 refine rgs 1 [some 2] [IsV (.int .i64 5)] [] ?_ ?_
 ·refine Rc (mv Od.con) ?_
  exact RgAll.nil
 intro v W3 e1 hΦ _
 replace S := S.mono e1
 have v0 : v 0 = .int .i64 5 := hΦ 0 (by decide)
 simp only [layL, Act.put, uAx, u0x, u1x]
 rw [v0]
 clear v0 hΦ e1
 refine wpList_nil ?_
 go_wp2_with fail
 exact bodyPost_ret (v := .int .i64 5) (by simp [results, Tryz.results61, go_sem]) rfl (⟨_, rfl, S.ext, rfl⟩)

set_option maxRecDepth 100000 in
set_option maxHeartbeats 4000000 in
theorem unsuitable_p {k1 k2 : Nat} {z z2 : Int} {x y : Value} {w : World} (hx : IsI k1 z x w) (hy : IsI k2 z2 y w) (HK : Hid (k1 ≤ 16777216)) (HZ : Hid (0 ≤ z)) : Calls Tryz.prog 39 #[x, y] w (Ret w (IsV (.int .i64 5))) := by
 obtain ⟨s1, a1, n1, c1, rfl, h1⟩ := hx
 have h1 : IsI _ _ _ w := ⟨_, _, _, _, rfl, h1⟩
 obtain ⟨s2, a2, n2, c2, rfl, h2⟩ := hy
 have h2 : IsI _ _ _ w := ⟨_, _, _, _, rfl, h2⟩
 obtain ⟨W, hW, S⟩ : ∃ W, W = (w.alloc (.cells #[.bool s1, .slice a1 n1 c1] 33)).alloc (.cells #[.bool s2, .slice a2 n2 c2] 33) ∧ Sto w W [((w.heap.size + 1, 0), IsI k2 z2), ((w.heap.size, 0), IsI k1 z)] := ⟨_, rfl, (((Sto.start w).new1 (w.heap.size) (by simp) s1 a1 n1 c1 33 (IsI k1 z) (IsI.gstb _ _) (h1)).new1 (w.heap.size + 1) (by simp) s2 a2 n2 c2 33 (IsI k2 z2) (IsI.gstb _ _) (h2.ext ((Ext.refl _).alloc _)))⟩
 clear h1 h2
 go_enter Tryz.func39, Tryz.ntmps39
 go_upto_region 1 with (fail)
 rw [← hW]
 clear hW
 refine rgs 3 [some 9, some 10, some 5] [IsI k1 z, IsV (.int .i64 5), IsV (.int .i64 5)] [] ?_ ?_
 ·refine Rc (ldI S 1 (w.heap.size) 0 (Od.lit 2) ld_Int) ?_
  refine Rc (cl1 (en Tryz.func61) (Od.lc (Φ := IsI k1 z) 0 9) (fun x0 w' hE d0 => drefused_p d0 HK.out HZ.out)) ?_
  refine Rc (mv (Od.lc 1 10)) ?_
  exact RgAll.nil
 intro v W1 e1 hΦ _
 replace S := S.mono e1
 have v2 : v 2 = .int .i64 5 := hΦ 2 (by decide)
 simp only [layL, Act.put, uAx, u0x, u1x, Nat.reduceAdd]
 rw [v2]
 clear v2 hΦ e1
 refine wpList_nil ?_
 go_upto_region 2 with (fail)
 refine rgs 2 [some 11, some 12] [IsV (.int .i64 5), IsV (.bool true)] [] ?_ ?_
 ·refine Rc (mv (Od.lit 5)) ?_
  refine Rc (bn (r := .bool true) (Od.loc 0 11) Od.con (hr := fun w => by go_simp)) ?_
  exact RgAll.nil
 intro v W2 e1 hΦ _
 replace S := S.mono e1
 have v1 : v 1 = .bool true := hΦ 1 (by decide)
 simp only [layL, Act.put, uAx, u0x, u1x, Nat.reduceAdd]
 rw [v1]
 clear v1 hΦ e1
 refine wpList_nil ?_
 go_upto_region 3 with (fail)
 refine rgs 2 [some 13, some 4] [IsV (.int .i64 5), IsV (.int .i64 5)] [] ?_ ?_
 ·refine Rc (mv (Od.lit 5)) ?_
  refine Rc (mv (Od.lc 0 13)) ?_
  exact RgAll.nil
 intro v W3 e1 hΦ _
 replace S := S.mono e1
 have v1 : v 1 = .int .i64 5 := hΦ 1 (by decide)
 simp only [layL, Act.put, uAx, u0x, u1x, Nat.reduceAdd]
 rw [v1]
 clear v1 hΦ e1
 refine wpList_nil ?_
 go_wp2_with fail
 exact bodyPost_ret (v := .int .i64 5) (by simp [results, Tryz.results39, go_sem]) rfl (⟨_, rfl, S.ext, rfl⟩)

set_option maxRecDepth 100000 in
set_option maxHeartbeats 4000000 in
theorem Total_p {k1 k2 : Nat} {z z2 : Int} {x y : Value} {w : World} (hx : IsI k1 z x w) (hy : IsI k2 z2 y w) (HK : Hid (k1 ≤ 16777216)) (HZ : Hid (0 ≤ z)) : Calls Tryz.prog 12 #[x, y] w (Ret w (IsT2 (IsV (.int .i64 0)) (IsV (.int .i64 5)))) := by
 obtain ⟨s1, a1, n1, c1, rfl, h1⟩ := hx
 have h1 : IsI _ _ _ w := ⟨_, _, _, _, rfl, h1⟩
 obtain ⟨s2, a2, n2, c2, rfl, h2⟩ := hy
 have h2 : IsI _ _ _ w := ⟨_, _, _, _, rfl, h2⟩
 obtain ⟨W, hW, S⟩ : ∃ W, W = (w.alloc (.cells #[.bool s1, .slice a1 n1 c1] 33)).alloc (.cells #[.bool s2, .slice a2 n2 c2] 33) ∧ Sto w W [((w.heap.size + 1, 0), IsI k2 z2), ((w.heap.size, 0), IsI k1 z)] := ⟨_, rfl, (((Sto.start w).new1 (w.heap.size) (by simp) s1 a1 n1 c1 33 (IsI k1 z) (IsI.gstb _ _) (h1)).new1 (w.heap.size + 1) (by simp) s2 a2 n2 c2 33 (IsI k2 z2) (IsI.gstb _ _) (h2.ext ((Ext.refl _).alloc _)))⟩
 clear h1 h2
 go_enter Tryz.func12, Tryz.ntmps12
 go_upto_region 1 with (fail)
 rw [← hW]
 clear hW
 refine rgs 4 [some 14, some 15, some 16, some 6] [IsI k1 z, IsI k2 z2, IsV (.int .i64 5), IsV (.int .i64 5)] [] ?_ ?_
 ·refine Rc (ldI S 1 (w.heap.size) 0 (Od.lit 2) ld_Int) ?_
  refine Rc (ldI S 0 (w.heap.size + 1) 0 (Od.lit 3) ld_Int) ?_
  refine Rc (cl2 (en Tryz.func39) (Od.lc (Φ := IsI k1 z) 0 14) (Od.lc (Φ := IsI k2 z2) 1 15) (fun x0 x1 w' hE d0 d1 => unsuitable_p d0 d1 HK HZ)) ?_
  refine Rc (mv (Od.lc 2 16)) ?_
  exact RgAll.nil
 intro v W1 e1 hΦ _
 replace S := S.mono e1
 have v3 : v 3 = .int .i64 5 := hΦ 3 (by decide)
 simp only [layL, Act.put, uAx, u0x, u1x, Nat.reduceAdd]
 rw [v3]
 clear v3 hΦ e1
 refine wpList_nil ?_
 go_upto_region 2 with (fail)
 refine rgs 2 [some 17, some 18] [IsV (.int .i64 5), IsV (.bool true)] [] ?_ ?_
 ·refine Rc (mv (Od.lit 6)) ?_
  refine Rc (bn (r := .bool true) (Od.loc 0 17) Od.con (hr := fun w => by go_simp)) ?_
  exact RgAll.nil
 intro v W2 e1 hΦ _
 replace S := S.mono e1
 have v1 : v 1 = .bool true := hΦ 1 (by decide)
 simp only [layL, Act.put, uAx, u0x, u1x, Nat.reduceAdd]
 rw [v1]
 clear v1 hΦ e1
 refine wpList_nil ?_
 go_upto_region 3 with (fail)
 refine rgs 3 [some 19, some 4, some 5] [IsV (.int .i64 5), IsV (.int .i64 0), IsV (.int .i64 5)] [] ?_ ?_
 ·refine Rc (mv (Od.lit 6)) ?_
  refine Rc (mv Od.con) ?_
  refine Rc (mv (Od.lc 0 19)) ?_
  exact RgAll.nil
 intro v W3 e1 hΦ _
 replace S := S.mono e1
 have v1 : v 1 = .int .i64 0 := hΦ 1 (by decide)
 have v2 : v 2 = .int .i64 5 := hΦ 2 (by decide)
 simp only [layL, Act.put, uAx, u0x, u1x, Nat.reduceAdd]
 rw [v1, v2]
 clear v1 v2 hΦ e1
 refine wpList_nil ?_
 go_wp2_with fail
 exact bodyPost_ret (v := .tuple #[.int .i64 0, .int .i64 5]) (by simp [results, Tryz.results12, go_sem]) rfl (⟨_, rfl, S.ext, _, _, rfl, rfl, rfl⟩)

set_option maxRecDepth 100000 in
set_option maxHeartbeats 4000000 in
theorem SameList_f {xs ys : List Int} {x y : Value} {w : World} (hx : IRx xs x w) (hy : IRx ys y w) : Calls Tryz.prog 20 #[x, y] w (Ret w (IsV (.bool (decide (xs = ys))))) := by
 obtain ⟨ao, c1, rfl, hc1, hc2, hx4⟩ := hx.shape
 obtain ⟨bo, c2, rfl, hd1, hd2, hy4⟩ := hy.shape
 have HX := hid hx4
 have HY := hid hy4
 have hl : xs.length ≤ 9223372036854775807 ∧ ys.length ≤ 9223372036854775807 := by omega
 clear hx hy hx4 hy4
 by_cases hlen : xs.length = ys.length
 ·have hlz : (((xs.length : Nat) : Int) != ((ys.length : Nat) : Int)) = false := by rw [hlen]; simp
  have HL := hid hlen
  go_enter Tryz.func20, Tryz.ntmps20
  go_wp2_with fail
  clear hlz
  go_loopg [5] xs.length (fun gk v5 wr => ∃ i : Nat, v5 = .int .i64 ((i : Nat) : Int) ∧ i + gk = xs.length ∧ Hid (xs.take i = ys.take i ∧ Ext w wr))
  case atStart => exact ⟨0, rfl, by omega, hid ⟨by simp, Ext.refl _⟩⟩
  case round =>
   obtain ⟨i, rfl, hg, HR⟩ := hrel
   rcases Nat.eq_zero_or_pos gk with h0 | h0
   ·obtain rfl : i = xs.length := by omega
    have heq : decide (xs = ys) = true := by
     have := HR.out.1
     rw [List.take_length, HL.out, List.take_length] at this
     exact decide_eq_true this
    have hdec : decide (((xs.length : Nat) : Int) < ((xs.length : Nat) : Int)) = false := by simp
    have HQ := hid heq
    clear heq hg h0
    go_wp2_with fail
    exact bodyPost_ret (v := .bool true) (by simp [results, Tryz.results20, go_sem]) rfl ⟨_, rfl, HR.out.2, by rw [HQ.out]; rfl⟩
   ·have hi : i < xs.length := by omega
    have hi2 : i < ys.length := by have := HL.out; omega
    obtain ⟨g, rfl, _, hgc⟩ := HX.out (by rintro rfl; simp at hi)
    obtain ⟨g2, rfl, _, hgd⟩ := HY.out (by rintro rfl; simp at hi2)
    have M1 := HR.out.2.cell (hgc i _ (List.getElem?_eq_getElem hi))
    have M2 := HR.out.2.cell (hgd i _ (List.getElem?_eq_getElem hi2))
    have hdec : decide (((i : Nat) : Int) < ((xs.length : Nat) : Int)) = true := by simp; omega
    have HA := hid (show xs[i]? = some xs[i] ∧ ys[i]? = some ys[i] from ⟨List.getElem?_eq_getElem hi, List.getElem?_eq_getElem hi2⟩)
    have hca : i < c1 ∧ i < c2 := by omega
    obtain ⟨a, ha⟩ : ∃ a, xs[i] = a := ⟨_, rfl⟩
    obtain ⟨b, hb⟩ : ∃ b, ys[i] = b := ⟨_, rfl⟩
    rw [ha] at M1 HA
    rw [hb] at M2 HA
    have HG := hid (And.intro hg h0)
    clear hgc hgd hg h0 ha hb
    by_cases hab : a = b
    ·have hbb : (a != b) = false := by rw [hab]; simp
     have HAB := hid hab
     clear hab
     go_wp2_with fail
     go_region
     go_wp2_with fail
     have HE := hid (show xs.take (i + 1) = ys.take (i + 1) by rw [List.take_add_one, List.take_add_one, HA.out.1, HA.out.2, HR.out.1, HAB.out])
     go_roundg (gk - 1)
     case measure => have := HG.out; omega
     case rel => exact ⟨i + 1, by rw [Int.natCast_add]; rfl, by have := HG.out; omega, hid ⟨HE.out, HR.out.2.drew⟩⟩
    ·have hbb : (a != b) = true := by simpa using hab
     have HF := hid (show decide (xs = ys) = false by rw [decide_eq_false_iff_not]; rintro rfl; have := HA.out.1.symm.trans HA.out.2; injection this with h; exact hab h)
     clear hab
     go_wp2_with fail
     go_region
     go_wp2_with fail
     exact bodyPost_ret (v := .bool false) (by simp [results, Tryz.results20, go_sem]) rfl ⟨_, rfl, HR.out.2.drew, by rw [HF.out]; rfl⟩
 ·have hlz : (((xs.length : Nat) : Int) != ((ys.length : Nat) : Int)) = true := by simp only [bne_iff_ne, ne_eq]; omega
  have HF := hid (show decide (xs = ys) = false by rw [decide_eq_false_iff_not]; rintro rfl; exact hlen rfl)
  go_enter Tryz.func20, Tryz.ntmps20
  go_wp2_with fail
  exact bodyPost_ret (v := .bool false) (by simp [results, Tryz.results20, go_sem]) rfl ⟨_, rfl, Ext.refl _, by rw [HF.out]; rfl⟩
end Go.Proofs.YtknffgdbdadpcaaGreatDoor
