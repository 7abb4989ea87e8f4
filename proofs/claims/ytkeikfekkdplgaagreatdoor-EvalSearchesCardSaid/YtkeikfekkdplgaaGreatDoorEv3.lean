/-
 Package eval: the operations on two known intervals. (Printed by wip/gen/ev3.py.)
-/
import Derived.Test.YtkeikfekkdplgaaGreatDoorEv2
namespace Go.Proofs.YtkeikfekkdplgaaGreatDoor
open Go Go.RowKit
theorem Ret.iup {w : World} {k k' : Nat} {z z' : Int} {e : Ending} {w' : World} (h : Ret w (IsI k z) e w') (hz : z = z') (hk : k ≤ k') : Ret w (IsI k' z') e w' := let ⟨x, h1, h2, h3⟩ := h; ⟨x, h1, h2, hz ▸ h3.mono hk⟩

set_option maxRecDepth 100000 in
set_option maxHeartbeats 8000000 in
theorem opA_y {k : Nat} {l1 u1 l2 u2 u v m1 m2 r : Int} {f1 f2 : Bool} {x y : Value} {w : World} (hx : IsKn k l1 u1 f1 x w) (hy : IsKn k l2 u2 f2 y w) (HK : Hid (k ≤ 1000)) (HU : Hid (l1 + l2 = u)) (HV : Hid (u1 + u2 = v)) (H1 : Hid (((bitLen u.natAbs : Nat) : Int) = m1)) (H2 : Hid (((bitLen v.natAbs : Nat) : Int) = m2)) (HR : Hid ((if m2 > m1 then m2 else m1) = r)) (HB : Hid (¬ r > 4096)) : Calls Tryz.prog 138 #[x, y] w (Ret w (IsKn (k + 1) u v false)) := by
 obtain ⟨s1, a1, n1, c1, s2, a2, n2, c2, rfl, h1, h2⟩ := hx
 obtain ⟨s3, a3, n3, c3, s4, a4, n4, c4, rfl, h3, h4⟩ := hy
 obtain ⟨W, hW, E, B1, B2, B3⟩ : ∃ W, W = ((w.alloc (.cells #[.bool s1, .slice a1 n1 c1, .bool s2, .slice a2 n2 c2, .bool f1] 176)).alloc (.cells #[.bool s3, .slice a3 n3 c3, .bool s4, .slice a4 n4 c4, .bool f2] 176)).alloc (.cells #[.bool false, .slice none 0 0, .bool false, .slice none 0 0, .bool false] 176) ∧ Ext w W ∧ Bk W w.heap.size [.bool s1, .slice a1 n1 c1, .bool s2, .slice a2 n2 c2, .bool f1] ∧ Bk W (w.heap.size + 1) [.bool s3, .slice a3 n3 c3, .bool s4, .slice a4 n4 c4, .bool f2] ∧ Bk W (w.heap.size + 2) [.bool false, .slice none 0 0, .bool false, .slice none 0 0, .bool false] :=
  ⟨_, rfl, (((Ext.refl w).alloc _).alloc _).alloc _, (Bk.new w _ _).ext (((Ext.refl _).alloc _).alloc _), (Bk.newE _ _ (by simp) _ _).ext ((Ext.refl _).alloc _), Bk.newE _ _ (by simp) _ _⟩
 replace h1 := h1.ext E
 replace h2 := h2.ext E
 replace h3 := h3.ext E
 replace h4 := h4.ext E
 go_enter Tryz.func138, Tryz.ntmps138
 go_upto_region 1 with (fail)
 rw [← hW]
 clear hW
 refine rg 12 [some 5, some 6, some 7, some 8, some 9, some 10, some 11, some 12, some 13, some 14, some 15, some 16] [IsV (.pointer (some ⟨w.heap.size, 0, none⟩)), IsI k l1, IsV (.pointer (some ⟨w.heap.size + 1, 0, none⟩)), IsI k l2, IsI (k + 1) u, IsV (.pointer (some ⟨w.heap.size, 2, none⟩)), IsI k u1, IsV (.pointer (some ⟨w.heap.size + 1, 2, none⟩)), IsI k u2, IsI (k + 1) v, IsKn (k + 1) u v false, IsKn (k + 1) u v false] [] 1 ?_ ?_ (hst := by repeat' (first | exact trivial | exact IsV.stb _ | exact IsKn.stb _ _ _ _ | exact IsI.stb _ _ | apply And.intro))
 ·refine Rc (fa (fa_Kn0 w.heap.size 0) (Od.lit 2)) ?_
  refine Rc (lvI 0 B1 h1 ld_Int (Od.lc 0 5)) ?_
  refine Rc (fa (fa_Kn0 (w.heap.size + 1) 0) (Od.lit 3)) ?_
  refine Rc (lvI 0 B2 h3 ld_Int (Od.lc 2 7)) ?_
  refine Rc (cl2 (en Tryz.func140) (Od.lc (Φ := IsI k l1) 1 6) (Od.lc (Φ := IsI k l2) 3 8) (fun x0 x1 w' hE d0 d1 => Calls.mono (Add_f d0 d1 (by have := HK.out; omega) (by have := HK.out; omega)) fun _ _ h => h.iup (k := max k k + 1) (k' := k + 1) HU.out (by omega))) ?_
  refine Rc (fa (fa_Kn1 w.heap.size 0) (Od.lit 2)) ?_
  refine Rc (lvI 2 B1 h2 ld_Int (Od.lc 5 10)) ?_
  refine Rc (fa (fa_Kn1 (w.heap.size + 1) 0) (Od.lit 3)) ?_
  refine Rc (lvI 2 B2 h4 ld_Int (Od.lc 7 12)) ?_
  refine Rc (cl2 (en Tryz.func140) (Od.lc (Φ := IsI k u1) 6 11) (Od.lc (Φ := IsI k u2) 8 13) (fun x0 x1 w' hE d0 d1 => Calls.mono (Add_f d0 d1 (by have := HK.out; omega) (by have := HK.out; omega)) fun _ _ h => h.iup (k := max k k + 1) (k' := k + 1) HV.out (by omega))) ?_
  refine Rc (bkn (Od.loc 4 9) (Od.loc 9 14) bd_Kn) ?_
  refine Rc (cl1 (en Tryz.func139) (Od.lc (Φ := IsKn (k + 1) u v false) 10 15) (fun x0 w' hE d0 => short_y d0 (hid (by have := HK.out; omega)) H1 H2 HR HB)) ?_
  exact RgAll.nil
 intro v W1 e1 hΦ _
 replace E := E.trans e1
 replace B3 := B3.ext e1
 obtain ⟨s5, a5, n5, c5, s6, a6, n6, c6, hv, g1, g2⟩ := hΦ 11 (by decide)
 simp only [layL, Act.put, uAx, u0x, u1x, Nat.reduceAdd]
 rw [hv]
 clear hv hΦ e1 B1 B2 h1 h2 h3 h4
 refine stA 12 (h := fun K hK => ?_)
 refine stV (us := [.bool s5, .slice a5 n5 c5, .bool s6, .slice a6 n6 c6, .bool false]) B3 st_Kn rfl rfl nw5 E (by omega) (fun W2 B4 E2 G2 _ _ => hK _ _ ?_)
 refine wpAny_done (by kernel_rfl) ?_ _
 have d0 := B4.c 0 _ rfl; have d1 := B4.c 1 _ rfl; have d2 := B4.c 2 _ rfl; have d3 := B4.c 3 _ rfl; have d4 := B4.c 4 _ rfl
 go_wp2_with fail
 exact bodyPost_ret (v := .agg #[.bool s5, .slice a5 n5 c5, .bool s6, .slice a6 n6 c6, .bool false]) (by simp [results, Tryz.results138, go_sem, d0, d1, d2, d3, d4]) rfl ⟨_, rfl, E2, _, _, _, _, _, _, _, _, rfl, IsI.gstb _ _ _ _ _ G2 g1, IsI.gstb _ _ _ _ _ G2 g2⟩

set_option maxRecDepth 100000 in
set_option maxHeartbeats 8000000 in
theorem opA_n {k : Nat} {l1 u1 l2 u2 u v m1 m2 r : Int} {f1 f2 : Bool} {x y : Value} {w : World} (hx : IsKn k l1 u1 f1 x w) (hy : IsKn k l2 u2 f2 y w) (HK : Hid (k ≤ 1000)) (HU : Hid (l1 + l2 = u)) (HV : Hid (u1 + u2 = v)) (H1 : Hid (((bitLen u.natAbs : Nat) : Int) = m1)) (H2 : Hid (((bitLen v.natAbs : Nat) : Int) = m2)) (HR : Hid ((if m2 > m1 then m2 else m1) = r)) (HB : Hid (r > 4096)) : Calls Tryz.prog 138 #[x, y] w (fun e w' => e = .panicked (pan 2) ∧ Ext w w') := by
 obtain ⟨s1, a1, n1, c1, s2, a2, n2, c2, rfl, h1, h2⟩ := hx
 obtain ⟨s3, a3, n3, c3, s4, a4, n4, c4, rfl, h3, h4⟩ := hy
 obtain ⟨W, hW, E, B1, B2, B3⟩ : ∃ W, W = ((w.alloc (.cells #[.bool s1, .slice a1 n1 c1, .bool s2, .slice a2 n2 c2, .bool f1] 176)).alloc (.cells #[.bool s3, .slice a3 n3 c3, .bool s4, .slice a4 n4 c4, .bool f2] 176)).alloc (.cells #[.bool false, .slice none 0 0, .bool false, .slice none 0 0, .bool false] 176) ∧ Ext w W ∧ Bk W w.heap.size [.bool s1, .slice a1 n1 c1, .bool s2, .slice a2 n2 c2, .bool f1] ∧ Bk W (w.heap.size + 1) [.bool s3, .slice a3 n3 c3, .bool s4, .slice a4 n4 c4, .bool f2] ∧ Bk W (w.heap.size + 2) [.bool false, .slice none 0 0, .bool false, .slice none 0 0, .bool false] :=
  ⟨_, rfl, (((Ext.refl w).alloc _).alloc _).alloc _, (Bk.new w _ _).ext (((Ext.refl _).alloc _).alloc _), (Bk.newE _ _ (by simp) _ _).ext ((Ext.refl _).alloc _), Bk.newE _ _ (by simp) _ _⟩
 replace h1 := h1.ext E
 replace h2 := h2.ext E
 replace h3 := h3.ext E
 replace h4 := h4.ext E
 go_enter Tryz.func138, Tryz.ntmps138
 go_upto_region 1 with (fail)
 rw [← hW]
 clear hW
 refine rg 12 [some 5, some 6, some 7, some 8, some 9, some 10, some 11, some 12, some 13, some 14, some 15, some 16] [IsV (.pointer (some ⟨w.heap.size, 0, none⟩)), IsI k l1, IsV (.pointer (some ⟨w.heap.size + 1, 0, none⟩)), IsI k l2, IsI (k + 1) u, IsV (.pointer (some ⟨w.heap.size, 2, none⟩)), IsI k u1, IsV (.pointer (some ⟨w.heap.size + 1, 2, none⟩)), IsI k u2, IsI (k + 1) v, IsKn (k + 1) u v false, fun _ _ => False] [] 1 ?_ ?_ (hst := by repeat' (first | exact trivial | exact (fun _ _ _ _ h => h) | exact IsV.stb _ | exact IsKn.stb _ _ _ _ | exact IsI.stb _ _ | apply And.intro))
 ·refine Rc (fa (fa_Kn0 w.heap.size 0) (Od.lit 2)) ?_
  refine Rc (lvI 0 B1 h1 ld_Int (Od.lc 0 5)) ?_
  refine Rc (fa (fa_Kn0 (w.heap.size + 1) 0) (Od.lit 3)) ?_
  refine Rc (lvI 0 B2 h3 ld_Int (Od.lc 2 7)) ?_
  refine Rc (cl2 (en Tryz.func140) (Od.lc (Φ := IsI k l1) 1 6) (Od.lc (Φ := IsI k l2) 3 8) (fun x0 x1 w' hE d0 d1 => Calls.mono (Add_f d0 d1 (by have := HK.out; omega) (by have := HK.out; omega)) fun _ _ h => h.iup (k := max k k + 1) (k' := k + 1) HU.out (by omega))) ?_
  refine Rc (fa (fa_Kn1 w.heap.size 0) (Od.lit 2)) ?_
  refine Rc (lvI 2 B1 h2 ld_Int (Od.lc 5 10)) ?_
  refine Rc (fa (fa_Kn1 (w.heap.size + 1) 0) (Od.lit 3)) ?_
  refine Rc (lvI 2 B2 h4 ld_Int (Od.lc 7 12)) ?_
  refine Rc (cl2 (en Tryz.func140) (Od.lc (Φ := IsI k u1) 6 11) (Od.lc (Φ := IsI k u2) 8 13) (fun x0 x1 w' hE d0 d1 => Calls.mono (Add_f d0 d1 (by have := HK.out; omega) (by have := HK.out; omega)) fun _ _ h => h.iup (k := max k k + 1) (k' := k + 1) HV.out (by omega))) ?_
  refine Rc (bkn (Od.loc 4 9) (Od.loc 9 14) bd_Kn) ?_
  refine RcP (en Tryz.func139) (Od.lc (Φ := IsKn (k + 1) u v false) 10 15) (fun x0 w' hE d0 => Calls.mono (short_n d0 (hid (by have := HK.out; omega)) H1 H2 HR HB) fun _ _ h => ⟨_, h.1, fun _ hd => ⟨hd, rfl, (E.trans hE).trans h.2⟩⟩) ?_
  exact RgAll.nil
 intro v W1 e1 hΦ _
 exact (hΦ 11 (by decide) : False).elim

set_option maxRecDepth 100000 in
set_option maxHeartbeats 8000000 in
theorem opS_y {k : Nat} {l1 u1 l2 u2 u v m1 m2 r : Int} {f1 f2 : Bool} {x y : Value} {w : World} (hx : IsKn k l1 u1 f1 x w) (hy : IsKn k l2 u2 f2 y w) (HK : Hid (k ≤ 1000)) (HU : Hid (l1 - u2 = u)) (HV : Hid (u1 - l2 = v)) (H1 : Hid (((bitLen u.natAbs : Nat) : Int) = m1)) (H2 : Hid (((bitLen v.natAbs : Nat) : Int) = m2)) (HR : Hid ((if m2 > m1 then m2 else m1) = r)) (HB : Hid (¬ r > 4096)) : Calls Tryz.prog 141 #[x, y] w (Ret w (IsKn (k + 1) u v false)) := by
 obtain ⟨s1, a1, n1, c1, s2, a2, n2, c2, rfl, h1, h2⟩ := hx
 obtain ⟨s3, a3, n3, c3, s4, a4, n4, c4, rfl, h3, h4⟩ := hy
 obtain ⟨W, hW, E, B1, B2, B3⟩ : ∃ W, W = ((w.alloc (.cells #[.bool s1, .slice a1 n1 c1, .bool s2, .slice a2 n2 c2, .bool f1] 176)).alloc (.cells #[.bool s3, .slice a3 n3 c3, .bool s4, .slice a4 n4 c4, .bool f2] 176)).alloc (.cells #[.bool false, .slice none 0 0, .bool false, .slice none 0 0, .bool false] 176) ∧ Ext w W ∧ Bk W w.heap.size [.bool s1, .slice a1 n1 c1, .bool s2, .slice a2 n2 c2, .bool f1] ∧ Bk W (w.heap.size + 1) [.bool s3, .slice a3 n3 c3, .bool s4, .slice a4 n4 c4, .bool f2] ∧ Bk W (w.heap.size + 2) [.bool false, .slice none 0 0, .bool false, .slice none 0 0, .bool false] :=
  ⟨_, rfl, (((Ext.refl w).alloc _).alloc _).alloc _, (Bk.new w _ _).ext (((Ext.refl _).alloc _).alloc _), (Bk.newE _ _ (by simp) _ _).ext ((Ext.refl _).alloc _), Bk.newE _ _ (by simp) _ _⟩
 replace h1 := h1.ext E
 replace h2 := h2.ext E
 replace h3 := h3.ext E
 replace h4 := h4.ext E
 go_enter Tryz.func141, Tryz.ntmps141
 go_upto_region 1 with (fail)
 rw [← hW]
 clear hW
 refine rg 12 [some 5, some 6, some 7, some 8, some 9, some 10, some 11, some 12, some 13, some 14, some 15, some 16] [IsV (.pointer (some ⟨w.heap.size, 0, none⟩)), IsI k l1, IsV (.pointer (some ⟨w.heap.size + 1, 2, none⟩)), IsI k u2, IsI (k + 1) u, IsV (.pointer (some ⟨w.heap.size, 2, none⟩)), IsI k u1, IsV (.pointer (some ⟨w.heap.size + 1, 0, none⟩)), IsI k l2, IsI (k + 1) v, IsKn (k + 1) u v false, IsKn (k + 1) u v false] [] 1 ?_ ?_ (hst := by repeat' (first | exact trivial | exact IsV.stb _ | exact IsKn.stb _ _ _ _ | exact IsI.stb _ _ | apply And.intro))
 ·refine Rc (fa (fa_Kn0 w.heap.size 0) (Od.lit 2)) ?_
  refine Rc (lvI 0 B1 h1 ld_Int (Od.lc 0 5)) ?_
  refine Rc (fa (fa_Kn1 (w.heap.size + 1) 0) (Od.lit 3)) ?_
  refine Rc (lvI 2 B2 h4 ld_Int (Od.lc 2 7)) ?_
  refine Rc (cl2 (en Tryz.func142) (Od.lc (Φ := IsI k l1) 1 6) (Od.lc (Φ := IsI k u2) 3 8) (fun x0 x1 w' hE d0 d1 => Calls.mono (Sub_f d0 d1 (by have := HK.out; omega) (by have := HK.out; omega)) fun _ _ h => h.iup (k := max k k + 1) (k' := k + 1) HU.out (by omega))) ?_
  refine Rc (fa (fa_Kn1 w.heap.size 0) (Od.lit 2)) ?_
  refine Rc (lvI 2 B1 h2 ld_Int (Od.lc 5 10)) ?_
  refine Rc (fa (fa_Kn0 (w.heap.size + 1) 0) (Od.lit 3)) ?_
  refine Rc (lvI 0 B2 h3 ld_Int (Od.lc 7 12)) ?_
  refine Rc (cl2 (en Tryz.func142) (Od.lc (Φ := IsI k u1) 6 11) (Od.lc (Φ := IsI k l2) 8 13) (fun x0 x1 w' hE d0 d1 => Calls.mono (Sub_f d0 d1 (by have := HK.out; omega) (by have := HK.out; omega)) fun _ _ h => h.iup (k := max k k + 1) (k' := k + 1) HV.out (by omega))) ?_
  refine Rc (bkn (Od.loc 4 9) (Od.loc 9 14) bd_Kn) ?_
  refine Rc (cl1 (en Tryz.func139) (Od.lc (Φ := IsKn (k + 1) u v false) 10 15) (fun x0 w' hE d0 => short_y d0 (hid (by have := HK.out; omega)) H1 H2 HR HB)) ?_
  exact RgAll.nil
 intro v W1 e1 hΦ _
 replace E := E.trans e1
 replace B3 := B3.ext e1
 obtain ⟨s5, a5, n5, c5, s6, a6, n6, c6, hv, g1, g2⟩ := hΦ 11 (by decide)
 simp only [layL, Act.put, uAx, u0x, u1x, Nat.reduceAdd]
 rw [hv]
 clear hv hΦ e1 B1 B2 h1 h2 h3 h4
 refine stA 12 (h := fun K hK => ?_)
 refine stV (us := [.bool s5, .slice a5 n5 c5, .bool s6, .slice a6 n6 c6, .bool false]) B3 st_Kn rfl rfl nw5 E (by omega) (fun W2 B4 E2 G2 _ _ => hK _ _ ?_)
 refine wpAny_done (by kernel_rfl) ?_ _
 have d0 := B4.c 0 _ rfl; have d1 := B4.c 1 _ rfl; have d2 := B4.c 2 _ rfl; have d3 := B4.c 3 _ rfl; have d4 := B4.c 4 _ rfl
 go_wp2_with fail
 exact bodyPost_ret (v := .agg #[.bool s5, .slice a5 n5 c5, .bool s6, .slice a6 n6 c6, .bool false]) (by simp [results, Tryz.results141, go_sem, d0, d1, d2, d3, d4]) rfl ⟨_, rfl, E2, _, _, _, _, _, _, _, _, rfl, IsI.gstb _ _ _ _ _ G2 g1, IsI.gstb _ _ _ _ _ G2 g2⟩

set_option maxRecDepth 100000 in
set_option maxHeartbeats 8000000 in
theorem opS_n {k : Nat} {l1 u1 l2 u2 u v m1 m2 r : Int} {f1 f2 : Bool} {x y : Value} {w : World} (hx : IsKn k l1 u1 f1 x w) (hy : IsKn k l2 u2 f2 y w) (HK : Hid (k ≤ 1000)) (HU : Hid (l1 - u2 = u)) (HV : Hid (u1 - l2 = v)) (H1 : Hid (((bitLen u.natAbs : Nat) : Int) = m1)) (H2 : Hid (((bitLen v.natAbs : Nat) : Int) = m2)) (HR : Hid ((if m2 > m1 then m2 else m1) = r)) (HB : Hid (r > 4096)) : Calls Tryz.prog 141 #[x, y] w (fun e w' => e = .panicked (pan 2) ∧ Ext w w') := by
 obtain ⟨s1, a1, n1, c1, s2, a2, n2, c2, rfl, h1, h2⟩ := hx
 obtain ⟨s3, a3, n3, c3, s4, a4, n4, c4, rfl, h3, h4⟩ := hy
 obtain ⟨W, hW, E, B1, B2, B3⟩ : ∃ W, W = ((w.alloc (.cells #[.bool s1, .slice a1 n1 c1, .bool s2, .slice a2 n2 c2, .bool f1] 176)).alloc (.cells #[.bool s3, .slice a3 n3 c3, .bool s4, .slice a4 n4 c4, .bool f2] 176)).alloc (.cells #[.bool false, .slice none 0 0, .bool false, .slice none 0 0, .bool false] 176) ∧ Ext w W ∧ Bk W w.heap.size [.bool s1, .slice a1 n1 c1, .bool s2, .slice a2 n2 c2, .bool f1] ∧ Bk W (w.heap.size + 1) [.bool s3, .slice a3 n3 c3, .bool s4, .slice a4 n4 c4, .bool f2] ∧ Bk W (w.heap.size + 2) [.bool false, .slice none 0 0, .bool false, .slice none 0 0, .bool false] :=
  ⟨_, rfl, (((Ext.refl w).alloc _).alloc _).alloc _, (Bk.new w _ _).ext (((Ext.refl _).alloc _).alloc _), (Bk.newE _ _ (by simp) _ _).ext ((Ext.refl _).alloc _), Bk.newE _ _ (by simp) _ _⟩
 replace h1 := h1.ext E
 replace h2 := h2.ext E
 replace h3 := h3.ext E
 replace h4 := h4.ext E
 go_enter Tryz.func141, Tryz.ntmps141
 go_upto_region 1 with (fail)
 rw [← hW]
 clear hW
 refine rg 12 [some 5, some 6, some 7, some 8, some 9, some 10, some 11, some 12, some 13, some 14, some 15, some 16] [IsV (.pointer (some ⟨w.heap.size, 0, none⟩)), IsI k l1, IsV (.pointer (some ⟨w.heap.size + 1, 2, none⟩)), IsI k u2, IsI (k + 1) u, IsV (.pointer (some ⟨w.heap.size, 2, none⟩)), IsI k u1, IsV (.pointer (some ⟨w.heap.size + 1, 0, none⟩)), IsI k l2, IsI (k + 1) v, IsKn (k + 1) u v false, fun _ _ => False] [] 1 ?_ ?_ (hst := by repeat' (first | exact trivial | exact (fun _ _ _ _ h => h) | exact IsV.stb _ | exact IsKn.stb _ _ _ _ | exact IsI.stb _ _ | apply And.intro))
 ·refine Rc (fa (fa_Kn0 w.heap.size 0) (Od.lit 2)) ?_
  refine Rc (lvI 0 B1 h1 ld_Int (Od.lc 0 5)) ?_
  refine Rc (fa (fa_Kn1 (w.heap.size + 1) 0) (Od.lit 3)) ?_
  refine Rc (lvI 2 B2 h4 ld_Int (Od.lc 2 7)) ?_
  refine Rc (cl2 (en Tryz.func142) (Od.lc (Φ := IsI k l1) 1 6) (Od.lc (Φ := IsI k u2) 3 8) (fun x0 x1 w' hE d0 d1 => Calls.mono (Sub_f d0 d1 (by have := HK.out; omega) (by have := HK.out; omega)) fun _ _ h => h.iup (k := max k k + 1) (k' := k + 1) HU.out (by omega))) ?_
  refine Rc (fa (fa_Kn1 w.heap.size 0) (Od.lit 2)) ?_
  refine Rc (lvI 2 B1 h2 ld_Int (Od.lc 5 10)) ?_
  refine Rc (fa (fa_Kn0 (w.heap.size + 1) 0) (Od.lit 3)) ?_
  refine Rc (lvI 0 B2 h3 ld_Int (Od.lc 7 12)) ?_
  refine Rc (cl2 (en Tryz.func142) (Od.lc (Φ := IsI k u1) 6 11) (Od.lc (Φ := IsI k l2) 8 13) (fun x0 x1 w' hE d0 d1 => Calls.mono (Sub_f d0 d1 (by have := HK.out; omega) (by have := HK.out; omega)) fun _ _ h => h.iup (k := max k k + 1) (k' := k + 1) HV.out (by omega))) ?_
  refine Rc (bkn (Od.loc 4 9) (Od.loc 9 14) bd_Kn) ?_
  refine RcP (en Tryz.func139) (Od.lc (Φ := IsKn (k + 1) u v false) 10 15) (fun x0 w' hE d0 => Calls.mono (short_n d0 (hid (by have := HK.out; omega)) H1 H2 HR HB) fun _ _ h => ⟨_, h.1, fun _ hd => ⟨hd, rfl, (E.trans hE).trans h.2⟩⟩) ?_
  exact RgAll.nil
 intro v W1 e1 hΦ _
 exact (hΦ 11 (by decide) : False).elim

set_option maxRecDepth 100000 in
set_option maxHeartbeats 8000000 in
theorem opL_f {k : Nat} {l1 u1 l2 u2 : Int} {f1 f2 : Bool} {x y : Value} {w : World} (hx : IsKn k l1 u1 f1 x w) (hy : IsKn k l2 u2 f2 y w) (HK : Hid (k ≤ 1000)) : Calls Tryz.prog 146 #[x, y] w (Ret w (IsKn k (min l1 l2) (min u1 u2) false)) := by
 obtain ⟨s1, a1, n1, c1, s2, a2, n2, c2, rfl, h1, h2⟩ := hx
 obtain ⟨s3, a3, n3, c3, s4, a4, n4, c4, rfl, h3, h4⟩ := hy
 obtain ⟨W, hW, E, B1, B2, B3⟩ : ∃ W, W = ((w.alloc (.cells #[.bool s1, .slice a1 n1 c1, .bool s2, .slice a2 n2 c2, .bool f1] 176)).alloc (.cells #[.bool s3, .slice a3 n3 c3, .bool s4, .slice a4 n4 c4, .bool f2] 176)).alloc (.cells #[.bool false, .slice none 0 0, .bool false, .slice none 0 0, .bool false] 176) ∧ Ext w W ∧ Bk W w.heap.size [.bool s1, .slice a1 n1 c1, .bool s2, .slice a2 n2 c2, .bool f1] ∧ Bk W (w.heap.size + 1) [.bool s3, .slice a3 n3 c3, .bool s4, .slice a4 n4 c4, .bool f2] ∧ Bk W (w.heap.size + 2) [.bool false, .slice none 0 0, .bool false, .slice none 0 0, .bool false] :=
  ⟨_, rfl, (((Ext.refl w).alloc _).alloc _).alloc _, (Bk.new w _ _).ext (((Ext.refl _).alloc _).alloc _), (Bk.newE _ _ (by simp) _ _).ext ((Ext.refl _).alloc _), Bk.newE _ _ (by simp) _ _⟩
 replace h1 := h1.ext E
 replace h2 := h2.ext E
 replace h3 := h3.ext E
 replace h4 := h4.ext E
 go_enter Tryz.func146, Tryz.ntmps146
 go_upto_region 1 with (fail)
 rw [← hW]
 clear hW
 refine rg 11 [some 5, some 6, some 7, some 8, some 9, some 10, some 11, some 12, some 13, some 14, some 15] [IsV (.pointer (some ⟨w.heap.size, 0, none⟩)), IsI k l1, IsV (.pointer (some ⟨w.heap.size + 1, 0, none⟩)), IsI k l2, IsI k (min l1 l2), IsV (.pointer (some ⟨w.heap.size, 2, none⟩)), IsI k u1, IsV (.pointer (some ⟨w.heap.size + 1, 2, none⟩)), IsI k u2, IsI k (min u1 u2), IsKn k (min l1 l2) (min u1 u2) false] [] 1 ?_ ?_ (hst := by repeat' (first | exact trivial | exact IsV.stb _ | exact IsKn.stb _ _ _ _ | exact IsI.stb _ _ | apply And.intro))
 ·refine Rc (fa (fa_Kn0 w.heap.size 0) (Od.lit 2)) ?_
  refine Rc (lvI 0 B1 h1 ld_Int (Od.lc 0 5)) ?_
  refine Rc (fa (fa_Kn0 (w.heap.size + 1) 0) (Od.lit 3)) ?_
  refine Rc (lvI 0 B2 h3 ld_Int (Od.lc 2 7)) ?_
  refine Rc (cl2 (en Tryz.func144) (Od.lc (Φ := IsI k l1) 1 6) (Od.lc (Φ := IsI k l2) 3 8) (fun x0 x1 w' hE d0 d1 => lessv_f d0 d1 (by have := HK.out; omega))) ?_
  refine Rc (fa (fa_Kn1 w.heap.size 0) (Od.lit 2)) ?_
  refine Rc (lvI 2 B1 h2 ld_Int (Od.lc 5 10)) ?_
  refine Rc (fa (fa_Kn1 (w.heap.size + 1) 0) (Od.lit 3)) ?_
  refine Rc (lvI 2 B2 h4 ld_Int (Od.lc 7 12)) ?_
  refine Rc (cl2 (en Tryz.func144) (Od.lc (Φ := IsI k u1) 6 11) (Od.lc (Φ := IsI k u2) 8 13) (fun x0 x1 w' hE d0 d1 => lessv_f d0 d1 (by have := HK.out; omega))) ?_
  refine Rc (bkn (Od.loc 4 9) (Od.loc 9 14) bd_Kn) ?_
  exact RgAll.nil
 intro v W1 e1 hΦ _
 replace E := E.trans e1
 replace B3 := B3.ext e1
 obtain ⟨s5, a5, n5, c5, s6, a6, n6, c6, hv, g1, g2⟩ := hΦ 10 (by decide)
 simp only [layL, Act.put, uAx, u0x, u1x, Nat.reduceAdd]
 rw [hv]
 clear hv hΦ e1 B1 B2 h1 h2 h3 h4
 refine stA 11 (h := fun K hK => ?_)
 refine stV (us := [.bool s5, .slice a5 n5 c5, .bool s6, .slice a6 n6 c6, .bool false]) B3 st_Kn rfl rfl nw5 E (by omega) (fun W2 B4 E2 G2 _ _ => hK _ _ ?_)
 refine wpAny_done (by kernel_rfl) ?_ _
 have d0 := B4.c 0 _ rfl; have d1 := B4.c 1 _ rfl; have d2 := B4.c 2 _ rfl; have d3 := B4.c 3 _ rfl; have d4 := B4.c 4 _ rfl
 go_wp2_with fail
 exact bodyPost_ret (v := .agg #[.bool s5, .slice a5 n5 c5, .bool s6, .slice a6 n6 c6, .bool false]) (by simp [results, Tryz.results146, go_sem, d0, d1, d2, d3, d4]) rfl ⟨_, rfl, E2, _, _, _, _, _, _, _, _, rfl, IsI.gstb _ _ _ _ _ G2 g1, IsI.gstb _ _ _ _ _ G2 g2⟩

set_option maxRecDepth 100000 in
set_option maxHeartbeats 8000000 in
theorem opG_f {k : Nat} {l1 u1 l2 u2 : Int} {f1 f2 : Bool} {x y : Value} {w : World} (hx : IsKn k l1 u1 f1 x w) (hy : IsKn k l2 u2 f2 y w) (HK : Hid (k ≤ 1000)) : Calls Tryz.prog 147 #[x, y] w (Ret w (IsKn k (max l1 l2) (max u1 u2) false)) := by
 obtain ⟨s1, a1, n1, c1, s2, a2, n2, c2, rfl, h1, h2⟩ := hx
 obtain ⟨s3, a3, n3, c3, s4, a4, n4, c4, rfl, h3, h4⟩ := hy
 obtain ⟨W, hW, E, B1, B2, B3⟩ : ∃ W, W = ((w.alloc (.cells #[.bool s1, .slice a1 n1 c1, .bool s2, .slice a2 n2 c2, .bool f1] 176)).alloc (.cells #[.bool s3, .slice a3 n3 c3, .bool s4, .slice a4 n4 c4, .bool f2] 176)).alloc (.cells #[.bool false, .slice none 0 0, .bool false, .slice none 0 0, .bool false] 176) ∧ Ext w W ∧ Bk W w.heap.size [.bool s1, .slice a1 n1 c1, .bool s2, .slice a2 n2 c2, .bool f1] ∧ Bk W (w.heap.size + 1) [.bool s3, .slice a3 n3 c3, .bool s4, .slice a4 n4 c4, .bool f2] ∧ Bk W (w.heap.size + 2) [.bool false, .slice none 0 0, .bool false, .slice none 0 0, .bool false] :=
  ⟨_, rfl, (((Ext.refl w).alloc _).alloc _).alloc _, (Bk.new w _ _).ext (((Ext.refl _).alloc _).alloc _), (Bk.newE _ _ (by simp) _ _).ext ((Ext.refl _).alloc _), Bk.newE _ _ (by simp) _ _⟩
 replace h1 := h1.ext E
 replace h2 := h2.ext E
 replace h3 := h3.ext E
 replace h4 := h4.ext E
 go_enter Tryz.func147, Tryz.ntmps147
 go_upto_region 1 with (fail)
 rw [← hW]
 clear hW
 refine rg 11 [some 5, some 6, some 7, some 8, some 9, some 10, some 11, some 12, some 13, some 14, some 15] [IsV (.pointer (some ⟨w.heap.size, 0, none⟩)), IsI k l1, IsV (.pointer (some ⟨w.heap.size + 1, 0, none⟩)), IsI k l2, IsI k (max l1 l2), IsV (.pointer (some ⟨w.heap.size, 2, none⟩)), IsI k u1, IsV (.pointer (some ⟨w.heap.size + 1, 2, none⟩)), IsI k u2, IsI k (max u1 u2), IsKn k (max l1 l2) (max u1 u2) false] [] 1 ?_ ?_ (hst := by repeat' (first | exact trivial | exact IsV.stb _ | exact IsKn.stb _ _ _ _ | exact IsI.stb _ _ | apply And.intro))
 ·refine Rc (fa (fa_Kn0 w.heap.size 0) (Od.lit 2)) ?_
  refine Rc (lvI 0 B1 h1 ld_Int (Od.lc 0 5)) ?_
  refine Rc (fa (fa_Kn0 (w.heap.size + 1) 0) (Od.lit 3)) ?_
  refine Rc (lvI 0 B2 h3 ld_Int (Od.lc 2 7)) ?_
  refine Rc (cl2 (en Tryz.func145) (Od.lc (Φ := IsI k l1) 1 6) (Od.lc (Φ := IsI k l2) 3 8) (fun x0 x1 w' hE d0 d1 => greaterv_f d0 d1 (by have := HK.out; omega))) ?_
  refine Rc (fa (fa_Kn1 w.heap.size 0) (Od.lit 2)) ?_
  refine Rc (lvI 2 B1 h2 ld_Int (Od.lc 5 10)) ?_
  refine Rc (fa (fa_Kn1 (w.heap.size + 1) 0) (Od.lit 3)) ?_
  refine Rc (lvI 2 B2 h4 ld_Int (Od.lc 7 12)) ?_
  refine Rc (cl2 (en Tryz.func145) (Od.lc (Φ := IsI k u1) 6 11) (Od.lc (Φ := IsI k u2) 8 13) (fun x0 x1 w' hE d0 d1 => greaterv_f d0 d1 (by have := HK.out; omega))) ?_
  refine Rc (bkn (Od.loc 4 9) (Od.loc 9 14) bd_Kn) ?_
  exact RgAll.nil
 intro v W1 e1 hΦ _
 replace E := E.trans e1
 replace B3 := B3.ext e1
 obtain ⟨s5, a5, n5, c5, s6, a6, n6, c6, hv, g1, g2⟩ := hΦ 10 (by decide)
 simp only [layL, Act.put, uAx, u0x, u1x, Nat.reduceAdd]
 rw [hv]
 clear hv hΦ e1 B1 B2 h1 h2 h3 h4
 refine stA 11 (h := fun K hK => ?_)
 refine stV (us := [.bool s5, .slice a5 n5 c5, .bool s6, .slice a6 n6 c6, .bool false]) B3 st_Kn rfl rfl nw5 E (by omega) (fun W2 B4 E2 G2 _ _ => hK _ _ ?_)
 refine wpAny_done (by kernel_rfl) ?_ _
 have d0 := B4.c 0 _ rfl; have d1 := B4.c 1 _ rfl; have d2 := B4.c 2 _ rfl; have d3 := B4.c 3 _ rfl; have d4 := B4.c 4 _ rfl
 go_wp2_with fail
 exact bodyPost_ret (v := .agg #[.bool s5, .slice a5 n5 c5, .bool s6, .slice a6 n6 c6, .bool false]) (by simp [results, Tryz.results147, go_sem, d0, d1, d2, d3, d4]) rfl ⟨_, rfl, E2, _, _, _, _, _, _, _, _, rfl, IsI.gstb _ _ _ _ _ G2 g1, IsI.gstb _ _ _ _ _ G2 g2⟩

set_option maxRecDepth 100000 in
set_option maxHeartbeats 8000000 in
theorem opLess_f {k : Nat} {l1 u1 l2 u2 c1' c2' : Int} {f1 f2 : Bool} {x y : Value} {w : World} (hx : IsKn k l1 u1 f1 x w) (hy : IsKn k l2 u2 f2 y w) (HK : Hid (k ≤ 1000)) {b1 b2 : Bool} (HC1 : Hid (cmpI u1 l2 = c1')) (HC2 : Hid (cmpI l1 u2 = c2')) (HB1 : Hid (decide (c1' < 0) = b1)) (HB2 : Hid (decide (0 ≤ c2') = b2)) : Calls Tryz.prog 148 #[x, y] w (Ret w (IsK 2 (truthV b1 b2))) := by
 obtain ⟨s1, a1, n1, c1, s2, a2, n2, c2, rfl, h1, h2⟩ := hx
 obtain ⟨s3, a3, n3, c3, s4, a4, n4, c4, rfl, h3, h4⟩ := hy
 obtain ⟨W, hW, E, B1, B2, B3⟩ : ∃ W, W = ((w.alloc (.cells #[.bool s1, .slice a1 n1 c1, .bool s2, .slice a2 n2 c2, .bool f1] 176)).alloc (.cells #[.bool s3, .slice a3 n3 c3, .bool s4, .slice a4 n4 c4, .bool f2] 176)).alloc (.cells #[.bool false, .slice none 0 0, .bool false, .slice none 0 0, .bool false] 176) ∧ Ext w W ∧ Bk W w.heap.size [.bool s1, .slice a1 n1 c1, .bool s2, .slice a2 n2 c2, .bool f1] ∧ Bk W (w.heap.size + 1) [.bool s3, .slice a3 n3 c3, .bool s4, .slice a4 n4 c4, .bool f2] ∧ Bk W (w.heap.size + 2) [.bool false, .slice none 0 0, .bool false, .slice none 0 0, .bool false] :=
  ⟨_, rfl, (((Ext.refl w).alloc _).alloc _).alloc _, (Bk.new w _ _).ext (((Ext.refl _).alloc _).alloc _), (Bk.newE _ _ (by simp) _ _).ext ((Ext.refl _).alloc _), Bk.newE _ _ (by simp) _ _⟩
 replace h1 := h1.ext E
 replace h2 := h2.ext E
 replace h3 := h3.ext E
 replace h4 := h4.ext E
 go_enter Tryz.func148, Tryz.ntmps148
 go_upto_region 1 with (fail)
 rw [← hW]
 clear hW
 refine rg 13 [some 5, some 6, some 7, some 8, some 9, some 10, some 11, some 12, some 13, some 14, some 15, some 16, some 17] [IsV (.pointer (some ⟨w.heap.size, 2, none⟩)), IsI k u1, IsV (.pointer (some ⟨w.heap.size + 1, 0, none⟩)), IsI k l2, IsV (.int .i64 c1'), IsV (.bool b1), IsV (.pointer (some ⟨w.heap.size, 0, none⟩)), IsI k l1, IsV (.pointer (some ⟨w.heap.size + 1, 2, none⟩)), IsI k u2, IsV (.int .i64 c2'), IsV (.bool b2), IsK 2 (truthV b1 b2)] [] 1 ?_ ?_ (hst := by repeat' (first | exact trivial | exact IsV.stb _ | exact IsKn.stb _ _ _ _ | exact IsI.stb _ _ | apply And.intro))
 ·refine Rc (fa (fa_Kn1 w.heap.size 0) (Od.lit 2)) ?_
  refine Rc (lvI 2 B1 h2 ld_Int (Od.lc 0 5)) ?_
  refine Rc (fa (fa_Kn0 (w.heap.size + 1) 0) (Od.lit 3)) ?_
  refine Rc (lvI 0 B2 h3 ld_Int (Od.lc 2 7)) ?_
  refine Rc (cl2 (en Tryz.func150) (Od.lc (Φ := IsI k u1) 1 6) (Od.lc (Φ := IsI k l2) 3 8) (fun x0 x1 w' hE d0 d1 => Calls.mono (Cmp_f d0 d1 (by have := HK.out; omega) (by have := HK.out; omega)) fun _ _ h => h.int HC1.out)) ?_
  refine Rc (bn (r := .bool b1) (Od.loc 4 9) Od.con (hr := fun w => by have hx9 := HB1.out; go_simp)) ?_
  refine Rc (fa (fa_Kn0 w.heap.size 0) (Od.lit 2)) ?_
  refine Rc (lvI 0 B1 h1 ld_Int (Od.lc 6 11)) ?_
  refine Rc (fa (fa_Kn1 (w.heap.size + 1) 0) (Od.lit 3)) ?_
  refine Rc (lvI 2 B2 h4 ld_Int (Od.lc 8 13)) ?_
  refine Rc (cl2 (en Tryz.func150) (Od.lc (Φ := IsI k l1) 7 12) (Od.lc (Φ := IsI k u2) 9 14) (fun x0 x1 w' hE d0 d1 => Calls.mono (Cmp_f d0 d1 (by have := HK.out; omega) (by have := HK.out; omega)) fun _ _ h => h.int HC2.out)) ?_
  refine Rc (bn (r := .bool b2) (Od.loc 10 15) Od.con (hr := fun w => by have hx9 := HB2.out; go_simp)) ?_
  refine Rc (cl2 (en Tryz.func149) (Od.lc (Φ := IsV (.bool b1)) 5 10) (Od.lc (Φ := IsV (.bool b2)) 11 16) (fun x0 x1 w' hE d0 d1 => by { obtain rfl : x0 = .bool b1 := d0; obtain rfl : x1 = .bool b2 := d1; exact truth_f w' b1 b2 })) ?_
  exact RgAll.nil
 intro v W1 e1 hΦ _
 replace E := E.trans e1
 replace B3 := B3.ext e1
 obtain ⟨s5, a5, n5, c5, s6, a6, n6, c6, hv, g1, g2⟩ := hΦ 12 (by decide)
 simp only [layL, Act.put, uAx, u0x, u1x, Nat.reduceAdd]
 rw [hv]
 clear hv hΦ e1 B1 B2 h1 h2 h3 h4
 refine stA 13 (h := fun K hK => ?_)
 refine stV (us := [.bool s5, .slice a5 n5 c5, .bool s6, .slice a6 n6 c6, .bool (truthV b1 b2).fin]) B3 st_Kn rfl rfl nw5 E (by omega) (fun W2 B4 E2 G2 _ _ => hK _ _ ?_)
 refine wpAny_done (by kernel_rfl) ?_ _
 have d0 := B4.c 0 _ rfl; have d1 := B4.c 1 _ rfl; have d2 := B4.c 2 _ rfl; have d3 := B4.c 3 _ rfl; have d4 := B4.c 4 _ rfl
 go_wp2_with fail
 exact bodyPost_ret (v := .agg #[.bool s5, .slice a5 n5 c5, .bool s6, .slice a6 n6 c6, .bool (truthV b1 b2).fin]) (by simp [results, Tryz.results148, go_sem, d0, d1, d2, d3, d4]) rfl ⟨_, rfl, E2, _, _, _, _, _, _, _, _, rfl, IsI.gstb _ _ _ _ _ G2 g1, IsI.gstb _ _ _ _ _ G2 g2⟩

set_option maxRecDepth 100000 in
set_option maxHeartbeats 8000000 in
theorem opEq_tt {k : Nat} {l1 u1 l2 u2 c1' c2' c3' c4' : Int} {f1 f2 : Bool} {x y : Value} {w : World} (hx : IsKn k l1 u1 f1 x w) (hy : IsKn k l2 u2 f2 y w) (HK : Hid (k ≤ 1000)) {b2 b4 : Bool} (HC1 : Hid (cmpI u1 l2 = c1')) (HB1 : Hid (decide (c1' < 0) = true)) (HC3 : Hid (cmpI l1 u2 = c3')) (HB3 : Hid (c3' = 0)) (HC4 : Hid (cmpI l2 u1 = c4')) (HB4 : Hid ((c4' == 0) = b4)) : Calls Tryz.prog 151 #[x, y] w (Ret w (IsK 2 (truthV b4 true))) := by
 obtain ⟨s1, a1, n1, c1, s2, a2, n2, c2, rfl, h1, h2⟩ := hx
 obtain ⟨s3, a3, n3, c3, s4, a4, n4, c4, rfl, h3, h4⟩ := hy
 obtain ⟨W, hW, E, B1, B2, B3⟩ : ∃ W, W = ((w.alloc (.cells #[.bool s1, .slice a1 n1 c1, .bool s2, .slice a2 n2 c2, .bool f1] 176)).alloc (.cells #[.bool s3, .slice a3 n3 c3, .bool s4, .slice a4 n4 c4, .bool f2] 176)).alloc (.cells #[.bool false, .slice none 0 0, .bool false, .slice none 0 0, .bool false] 176) ∧ Ext w W ∧ Bk W w.heap.size [.bool s1, .slice a1 n1 c1, .bool s2, .slice a2 n2 c2, .bool f1] ∧ Bk W (w.heap.size + 1) [.bool s3, .slice a3 n3 c3, .bool s4, .slice a4 n4 c4, .bool f2] ∧ Bk W (w.heap.size + 2) [.bool false, .slice none 0 0, .bool false, .slice none 0 0, .bool false] :=
  ⟨_, rfl, (((Ext.refl w).alloc _).alloc _).alloc _, (Bk.new w _ _).ext (((Ext.refl _).alloc _).alloc _), (Bk.newE _ _ (by simp) _ _).ext ((Ext.refl _).alloc _), Bk.newE _ _ (by simp) _ _⟩
 replace h1 := h1.ext E
 replace h2 := h2.ext E
 replace h3 := h3.ext E
 replace h4 := h4.ext E
 go_enter Tryz.func151, Tryz.ntmps151
 go_upto_region 1 with (fail)
 rw [← hW]
 clear hW
 refine rgs 15 [some 6, some 7, some 8, some 9, some 10, some 11, some 12, some 13, some 14, some 15, some 16, some 17, some 18, some 19, some 5] [IsV (.pointer (some ⟨w.heap.size, 2, none⟩)), IsI k u1, IsV (.pointer (some ⟨w.heap.size + 1, 0, none⟩)), IsI k l2, IsV (.int .i64 c1'), IsV (.bool true), IsV (.bool true), IsV undef, IsV undef, IsV undef, IsV undef, IsV undef, IsV undef, IsV (.bool true), IsV (.bool true)] [] ?_ ?_ (hst := by repeat' (first | exact trivial | exact IsV.stb _ | exact IsKn.stb _ _ _ _ | exact IsI.stb _ _ | apply And.intro))
 ·refine Rc (fa (fa_Kn1 w.heap.size 0) (Od.lit 2)) ?_
  refine Rc (lvI 2 B1 h2 ld_Int (Od.lc 0 6)) ?_
  refine Rc (fa (fa_Kn0 (w.heap.size + 1) 0) (Od.lit 3)) ?_
  refine Rc (lvI 0 B2 h3 ld_Int (Od.lc 2 8)) ?_
  refine Rc (cl2 (en Tryz.func150) (Od.lc (Φ := IsI k u1) 1 7) (Od.lc (Φ := IsI k l2) 3 9) (fun x0 x1 w' hE d0 d1 => Calls.mono (Cmp_f d0 d1 (by have := HK.out; omega) (by have := HK.out; omega)) fun _ _ h => h.int HC1.out)) ?_
  refine Rc (bn (r := .bool true) (Od.loc 4 10) Od.con (hr := fun w => by have hx9 := HB1.out; go_simp)) ?_
  refine Rc (mv (Od.lc 5 11)) ?_
  refine RcN 6 12 true ?_
  refine RcN 6 12 true ?_
  refine RcN 6 12 true ?_
  refine RcN 6 12 true ?_
  refine RcN 6 12 true ?_
  refine RcN 6 12 true ?_
  refine Rc (pk (Od.loc 6 12) Od.con) ?_
  refine Rc (mv (Od.lc 13 19)) ?_
  exact RgAll.nil
 intro v W1 e1 hΦ _
 replace E := E.trans e1
 replace B1 := B1.ext e1
 replace B2 := B2.ext e1
 replace B3 := B3.ext e1
 replace h1 := h1.ext e1
 replace h2 := h2.ext e1
 replace h3 := h3.ext e1
 replace h4 := h4.ext e1
 simp only [layL, Act.put, uAx, u0x, u1x, Nat.reduceAdd]
 rw [show v 14 = .bool true from hΦ 14 (by decide)]
 clear hΦ e1
 refine wpList_nil ?_
 go_upto_region 2 with (fail)
 refine rgs 16 [some 20, some 21, some 22, some 23, some 24, some 25, some 26, some 27, some 28, some 29, some 30, some 31, some 32, some 33, some 34, some 35] [IsV (.pointer (some ⟨w.heap.size, 0, none⟩)), IsI k l1, IsV (.pointer (some ⟨w.heap.size + 1, 2, none⟩)), IsI k u2, IsV (.int .i64 c3'), IsV (.bool true), IsV (.bool true), IsV (.pointer (some ⟨w.heap.size + 1, 0, none⟩)), IsI k l2, IsV (.pointer (some ⟨w.heap.size, 2, none⟩)), IsI k u1, IsV (.int .i64 c4'), IsV (.bool b4), IsV (.bool b4), IsV (.bool true), IsK 2 (truthV b4 true)] [] ?_ ?_ (hst := by repeat' (first | exact trivial | exact IsV.stb _ | exact IsKn.stb _ _ _ _ | exact IsI.stb _ _ | apply And.intro))
 ·refine Rc (fa (fa_Kn0 w.heap.size 0) (Od.lit 2)) ?_
  refine Rc (lvI 0 B1 h1 ld_Int (Od.lc 0 20)) ?_
  refine Rc (fa (fa_Kn1 (w.heap.size + 1) 0) (Od.lit 3)) ?_
  refine Rc (lvI 2 B2 h4 ld_Int (Od.lc 2 22)) ?_
  refine Rc (cl2 (en Tryz.func150) (Od.lc (Φ := IsI k l1) 1 21) (Od.lc (Φ := IsI k u2) 3 23) (fun x0 x1 w' hE d0 d1 => Calls.mono (Cmp_f d0 d1 (by have := HK.out; omega) (by have := HK.out; omega)) fun _ _ h => h.int HC3.out)) ?_
  refine Rc (bn (r := .bool true) (Od.loc 4 24) Od.con (hr := fun w => by have hx9 := HB3.out; go_simp)) ?_
  refine Rc (mv (Od.lc 5 25)) ?_
  refine RcG 6 26 true (fa (fa_Kn0 (w.heap.size + 1) 0) (Od.lit 3)) ?_
  refine RcG 6 26 true (lvI 0 B2 h3 ld_Int (Od.lc 7 27)) ?_
  refine RcG 6 26 true (fa (fa_Kn1 w.heap.size 0) (Od.lit 2)) ?_
  refine RcG 6 26 true (lvI 2 B1 h2 ld_Int (Od.lc 9 29)) ?_
  refine RcG 6 26 true (cl2 (en Tryz.func150) (Od.lc (Φ := IsI k l2) 8 28) (Od.lc (Φ := IsI k u1) 10 30) (fun x0 x1 w' hE d0 d1 => Calls.mono (Cmp_f d0 d1 (by have := HK.out; omega) (by have := HK.out; omega)) fun _ _ h => h.int HC4.out)) ?_
  refine RcG 6 26 true (bn (r := .bool b4) (Od.loc 11 31) Od.con (hr := fun w => by have hx9 := HB4.out; go_simp)) ?_
  refine Rc (pk (Od.loc 6 26) (Od.lc 12 32)) ?_
  refine Rc (mv (Od.lit 5)) ?_
  refine Rc (cl2 (en Tryz.func149) (Od.lc (Φ := IsV (.bool b4)) 13 33) (Od.lc (Φ := IsV (.bool true)) 14 34) (fun x0 x1 w' hE d0 d1 => by { obtain rfl : x0 = .bool b4 := d0; obtain rfl : x1 = .bool true := d1; exact truth_f w' b4 true })) ?_
  exact RgAll.nil
 intro v W1 e1 hΦ _
 replace E := E.trans e1
 replace B3 := B3.ext e1
 obtain ⟨s5, a5, n5, c5, s6, a6, n6, c6, hv, g1, g2⟩ := hΦ 15 (by decide)
 simp only [layL, Act.put, uAx, u0x, u1x, Nat.reduceAdd]
 rw [hv]
 clear hv hΦ e1 B1 B2 h1 h2 h3 h4
 refine stL (fun K hK => ?_)
 refine stV (us := [.bool s5, .slice a5 n5 c5, .bool s6, .slice a6 n6 c6, .bool (truthV b4 true).fin]) B3 st_Kn rfl rfl nw5 E (by omega) (fun W2 B4 E2 G2 _ _ => hK _ _ ?_)
 refine wpList_nil ?_
 have d0 := B4.c 0 _ rfl; have d1 := B4.c 1 _ rfl; have d2 := B4.c 2 _ rfl; have d3 := B4.c 3 _ rfl; have d4 := B4.c 4 _ rfl
 go_wp2_with fail
 exact bodyPost_ret (v := .agg #[.bool s5, .slice a5 n5 c5, .bool s6, .slice a6 n6 c6, .bool (truthV b4 true).fin]) (by simp [results, Tryz.results151, go_sem, d0, d1, d2, d3, d4]) rfl ⟨_, rfl, E2, _, _, _, _, _, _, _, _, rfl, IsI.gstb _ _ _ _ _ G2 g1, IsI.gstb _ _ _ _ _ G2 g2⟩

set_option maxRecDepth 100000 in
set_option maxHeartbeats 8000000 in
theorem opEq_tf {k : Nat} {l1 u1 l2 u2 c1' c2' c3' c4' : Int} {f1 f2 : Bool} {x y : Value} {w : World} (hx : IsKn k l1 u1 f1 x w) (hy : IsKn k l2 u2 f2 y w) (HK : Hid (k ≤ 1000)) {b2 b4 : Bool} (HC1 : Hid (cmpI u1 l2 = c1')) (HB1 : Hid (decide (c1' < 0) = true)) (HC3 : Hid (cmpI l1 u2 = c3')) (HB3 : Hid (¬ c3' = 0)) : Calls Tryz.prog 151 #[x, y] w (Ret w (IsK 2 (truthV false true))) := by
 obtain ⟨s1, a1, n1, c1, s2, a2, n2, c2, rfl, h1, h2⟩ := hx
 obtain ⟨s3, a3, n3, c3, s4, a4, n4, c4, rfl, h3, h4⟩ := hy
 obtain ⟨W, hW, E, B1, B2, B3⟩ : ∃ W, W = ((w.alloc (.cells #[.bool s1, .slice a1 n1 c1, .bool s2, .slice a2 n2 c2, .bool f1] 176)).alloc (.cells #[.bool s3, .slice a3 n3 c3, .bool s4, .slice a4 n4 c4, .bool f2] 176)).alloc (.cells #[.bool false, .slice none 0 0, .bool false, .slice none 0 0, .bool false] 176) ∧ Ext w W ∧ Bk W w.heap.size [.bool s1, .slice a1 n1 c1, .bool s2, .slice a2 n2 c2, .bool f1] ∧ Bk W (w.heap.size + 1) [.bool s3, .slice a3 n3 c3, .bool s4, .slice a4 n4 c4, .bool f2] ∧ Bk W (w.heap.size + 2) [.bool false, .slice none 0 0, .bool false, .slice none 0 0, .bool false] :=
  ⟨_, rfl, (((Ext.refl w).alloc _).alloc _).alloc _, (Bk.new w _ _).ext (((Ext.refl _).alloc _).alloc _), (Bk.newE _ _ (by simp) _ _).ext ((Ext.refl _).alloc _), Bk.newE _ _ (by simp) _ _⟩
 replace h1 := h1.ext E
 replace h2 := h2.ext E
 replace h3 := h3.ext E
 replace h4 := h4.ext E
 go_enter Tryz.func151, Tryz.ntmps151
 go_upto_region 1 with (fail)
 rw [← hW]
 clear hW
 refine rgs 15 [some 6, some 7, some 8, some 9, some 10, some 11, some 12, some 13, some 14, some 15, some 16, some 17, some 18, some 19, some 5] [IsV (.pointer (some ⟨w.heap.size, 2, none⟩)), IsI k u1, IsV (.pointer (some ⟨w.heap.size + 1, 0, none⟩)), IsI k l2, IsV (.int .i64 c1'), IsV (.bool true), IsV (.bool true), IsV undef, IsV undef, IsV undef, IsV undef, IsV undef, IsV undef, IsV (.bool true), IsV (.bool true)] [] ?_ ?_ (hst := by repeat' (first | exact trivial | exact IsV.stb _ | exact IsKn.stb _ _ _ _ | exact IsI.stb _ _ | apply And.intro))
 ·refine Rc (fa (fa_Kn1 w.heap.size 0) (Od.lit 2)) ?_
  refine Rc (lvI 2 B1 h2 ld_Int (Od.lc 0 6)) ?_
  refine Rc (fa (fa_Kn0 (w.heap.size + 1) 0) (Od.lit 3)) ?_
  refine Rc (lvI 0 B2 h3 ld_Int (Od.lc 2 8)) ?_
  refine Rc (cl2 (en Tryz.func150) (Od.lc (Φ := IsI k u1) 1 7) (Od.lc (Φ := IsI k l2) 3 9) (fun x0 x1 w' hE d0 d1 => Calls.mono (Cmp_f d0 d1 (by have := HK.out; omega) (by have := HK.out; omega)) fun _ _ h => h.int HC1.out)) ?_
  refine Rc (bn (r := .bool true) (Od.loc 4 10) Od.con (hr := fun w => by have hx9 := HB1.out; go_simp)) ?_
  refine Rc (mv (Od.lc 5 11)) ?_
  refine RcN 6 12 true ?_
  refine RcN 6 12 true ?_
  refine RcN 6 12 true ?_
  refine RcN 6 12 true ?_
  refine RcN 6 12 true ?_
  refine RcN 6 12 true ?_
  refine Rc (pk (Od.loc 6 12) Od.con) ?_
  refine Rc (mv (Od.lc 13 19)) ?_
  exact RgAll.nil
 intro v W1 e1 hΦ _
 replace E := E.trans e1
 replace B1 := B1.ext e1
 replace B2 := B2.ext e1
 replace B3 := B3.ext e1
 replace h1 := h1.ext e1
 replace h2 := h2.ext e1
 replace h3 := h3.ext e1
 replace h4 := h4.ext e1
 simp only [layL, Act.put, uAx, u0x, u1x, Nat.reduceAdd]
 rw [show v 14 = .bool true from hΦ 14 (by decide)]
 clear hΦ e1
 refine wpList_nil ?_
 go_upto_region 2 with (fail)
 refine rgs 16 [some 20, some 21, some 22, some 23, some 24, some 25, some 26, some 27, some 28, some 29, some 30, some 31, some 32, some 33, some 34, some 35] [IsV (.pointer (some ⟨w.heap.size, 0, none⟩)), IsI k l1, IsV (.pointer (some ⟨w.heap.size + 1, 2, none⟩)), IsI k u2, IsV (.int .i64 c3'), IsV (.bool false), IsV (.bool false), IsV undef, IsV undef, IsV undef, IsV undef, IsV undef, IsV undef, IsV (.bool false), IsV (.bool true), IsK 2 (truthV false true)] [] ?_ ?_ (hst := by repeat' (first | exact trivial | exact IsV.stb _ | exact IsKn.stb _ _ _ _ | exact IsI.stb _ _ | apply And.intro))
 ·refine Rc (fa (fa_Kn0 w.heap.size 0) (Od.lit 2)) ?_
  refine Rc (lvI 0 B1 h1 ld_Int (Od.lc 0 20)) ?_
  refine Rc (fa (fa_Kn1 (w.heap.size + 1) 0) (Od.lit 3)) ?_
  refine Rc (lvI 2 B2 h4 ld_Int (Od.lc 2 22)) ?_
  refine Rc (cl2 (en Tryz.func150) (Od.lc (Φ := IsI k l1) 1 21) (Od.lc (Φ := IsI k u2) 3 23) (fun x0 x1 w' hE d0 d1 => Calls.mono (Cmp_f d0 d1 (by have := HK.out; omega) (by have := HK.out; omega)) fun _ _ h => h.int HC3.out)) ?_
  refine Rc (bn (r := .bool false) (Od.loc 4 24) Od.con (hr := fun w => by have hx9 := HB3.out; go_simp)) ?_
  refine Rc (mv (Od.lc 5 25)) ?_
  refine RcN 6 26 false ?_
  refine RcN 6 26 false ?_
  refine RcN 6 26 false ?_
  refine RcN 6 26 false ?_
  refine RcN 6 26 false ?_
  refine RcN 6 26 false ?_
  refine Rc (pk (Od.loc 6 26) Od.con) ?_
  refine Rc (mv (Od.lit 5)) ?_
  refine Rc (cl2 (en Tryz.func149) (Od.lc (Φ := IsV (.bool false)) 13 33) (Od.lc (Φ := IsV (.bool true)) 14 34) (fun x0 x1 w' hE d0 d1 => by { obtain rfl : x0 = .bool false := d0; obtain rfl : x1 = .bool true := d1; exact truth_f w' false true })) ?_
  exact RgAll.nil
 intro v W1 e1 hΦ _
 replace E := E.trans e1
 replace B3 := B3.ext e1
 obtain ⟨s5, a5, n5, c5, s6, a6, n6, c6, hv, g1, g2⟩ := hΦ 15 (by decide)
 simp only [layL, Act.put, uAx, u0x, u1x, Nat.reduceAdd]
 rw [hv]
 clear hv hΦ e1 B1 B2 h1 h2 h3 h4
 refine stL (fun K hK => ?_)
 refine stV (us := [.bool s5, .slice a5 n5 c5, .bool s6, .slice a6 n6 c6, .bool (truthV false true).fin]) B3 st_Kn rfl rfl nw5 E (by omega) (fun W2 B4 E2 G2 _ _ => hK _ _ ?_)
 refine wpList_nil ?_
 have d0 := B4.c 0 _ rfl; have d1 := B4.c 1 _ rfl; have d2 := B4.c 2 _ rfl; have d3 := B4.c 3 _ rfl; have d4 := B4.c 4 _ rfl
 go_wp2_with fail
 exact bodyPost_ret (v := .agg #[.bool s5, .slice a5 n5 c5, .bool s6, .slice a6 n6 c6, .bool (truthV false true).fin]) (by simp [results, Tryz.results151, go_sem, d0, d1, d2, d3, d4]) rfl ⟨_, rfl, E2, _, _, _, _, _, _, _, _, rfl, IsI.gstb _ _ _ _ _ G2 g1, IsI.gstb _ _ _ _ _ G2 g2⟩

set_option maxRecDepth 100000 in
set_option maxHeartbeats 8000000 in
theorem opEq_ft {k : Nat} {l1 u1 l2 u2 c1' c2' c3' c4' : Int} {f1 f2 : Bool} {x y : Value} {w : World} (hx : IsKn k l1 u1 f1 x w) (hy : IsKn k l2 u2 f2 y w) (HK : Hid (k ≤ 1000)) {b2 b4 : Bool} (HC1 : Hid (cmpI u1 l2 = c1')) (HB1 : Hid (decide (c1' < 0) = false)) (HC2 : Hid (cmpI u2 l1 = c2')) (HB2 : Hid (decide (c2' < 0) = b2)) (HC3 : Hid (cmpI l1 u2 = c3')) (HB3 : Hid (c3' = 0)) (HC4 : Hid (cmpI l2 u1 = c4')) (HB4 : Hid ((c4' == 0) = b4)) : Calls Tryz.prog 151 #[x, y] w (Ret w (IsK 2 (truthV b4 b2))) := by
 obtain ⟨s1, a1, n1, c1, s2, a2, n2, c2, rfl, h1, h2⟩ := hx
 obtain ⟨s3, a3, n3, c3, s4, a4, n4, c4, rfl, h3, h4⟩ := hy
 obtain ⟨W, hW, E, B1, B2, B3⟩ : ∃ W, W = ((w.alloc (.cells #[.bool s1, .slice a1 n1 c1, .bool s2, .slice a2 n2 c2, .bool f1] 176)).alloc (.cells #[.bool s3, .slice a3 n3 c3, .bool s4, .slice a4 n4 c4, .bool f2] 176)).alloc (.cells #[.bool false, .slice none 0 0, .bool false, .slice none 0 0, .bool false] 176) ∧ Ext w W ∧ Bk W w.heap.size [.bool s1, .slice a1 n1 c1, .bool s2, .slice a2 n2 c2, .bool f1] ∧ Bk W (w.heap.size + 1) [.bool s3, .slice a3 n3 c3, .bool s4, .slice a4 n4 c4, .bool f2] ∧ Bk W (w.heap.size + 2) [.bool false, .slice none 0 0, .bool false, .slice none 0 0, .bool false] :=
  ⟨_, rfl, (((Ext.refl w).alloc _).alloc _).alloc _, (Bk.new w _ _).ext (((Ext.refl _).alloc _).alloc _), (Bk.newE _ _ (by simp) _ _).ext ((Ext.refl _).alloc _), Bk.newE _ _ (by simp) _ _⟩
 replace h1 := h1.ext E
 replace h2 := h2.ext E
 replace h3 := h3.ext E
 replace h4 := h4.ext E
 go_enter Tryz.func151, Tryz.ntmps151
 go_upto_region 1 with (fail)
 rw [← hW]
 clear hW
 refine rgs 15 [some 6, some 7, some 8, some 9, some 10, some 11, some 12, some 13, some 14, some 15, some 16, some 17, some 18, some 19, some 5] [IsV (.pointer (some ⟨w.heap.size, 2, none⟩)), IsI k u1, IsV (.pointer (some ⟨w.heap.size + 1, 0, none⟩)), IsI k l2, IsV (.int .i64 c1'), IsV (.bool false), IsV (.bool false), IsV (.pointer (some ⟨w.heap.size + 1, 2, none⟩)), IsI k u2, IsV (.pointer (some ⟨w.heap.size, 0, none⟩)), IsI k l1, IsV (.int .i64 c2'), IsV (.bool b2), IsV (.bool b2), IsV (.bool b2)] [] ?_ ?_ (hst := by repeat' (first | exact trivial | exact IsV.stb _ | exact IsKn.stb _ _ _ _ | exact IsI.stb _ _ | apply And.intro))
 ·refine Rc (fa (fa_Kn1 w.heap.size 0) (Od.lit 2)) ?_
  refine Rc (lvI 2 B1 h2 ld_Int (Od.lc 0 6)) ?_
  refine Rc (fa (fa_Kn0 (w.heap.size + 1) 0) (Od.lit 3)) ?_
  refine Rc (lvI 0 B2 h3 ld_Int (Od.lc 2 8)) ?_
  refine Rc (cl2 (en Tryz.func150) (Od.lc (Φ := IsI k u1) 1 7) (Od.lc (Φ := IsI k l2) 3 9) (fun x0 x1 w' hE d0 d1 => Calls.mono (Cmp_f d0 d1 (by have := HK.out; omega) (by have := HK.out; omega)) fun _ _ h => h.int HC1.out)) ?_
  refine Rc (bn (r := .bool false) (Od.loc 4 10) Od.con (hr := fun w => by have hx9 := HB1.out; go_simp)) ?_
  refine Rc (mv (Od.lc 5 11)) ?_
  refine RcG 6 12 false (fa (fa_Kn1 (w.heap.size + 1) 0) (Od.lit 3)) ?_
  refine RcG 6 12 false (lvI 2 B2 h4 ld_Int (Od.lc 7 13)) ?_
  refine RcG 6 12 false (fa (fa_Kn0 w.heap.size 0) (Od.lit 2)) ?_
  refine RcG 6 12 false (lvI 0 B1 h1 ld_Int (Od.lc 9 15)) ?_
  refine RcG 6 12 false (cl2 (en Tryz.func150) (Od.lc (Φ := IsI k u2) 8 14) (Od.lc (Φ := IsI k l1) 10 16) (fun x0 x1 w' hE d0 d1 => Calls.mono (Cmp_f d0 d1 (by have := HK.out; omega) (by have := HK.out; omega)) fun _ _ h => h.int HC2.out)) ?_
  refine RcG 6 12 false (bn (r := .bool b2) (Od.loc 11 17) Od.con (hr := fun w => by have hx9 := HB2.out; go_simp)) ?_
  refine Rc (pk (Od.loc 6 12) (Od.lc 12 18)) ?_
  refine Rc (mv (Od.lc 13 19)) ?_
  exact RgAll.nil
 intro v W1 e1 hΦ _
 replace E := E.trans e1
 replace B1 := B1.ext e1
 replace B2 := B2.ext e1
 replace B3 := B3.ext e1
 replace h1 := h1.ext e1
 replace h2 := h2.ext e1
 replace h3 := h3.ext e1
 replace h4 := h4.ext e1
 simp only [layL, Act.put, uAx, u0x, u1x, Nat.reduceAdd]
 rw [show v 14 = .bool b2 from hΦ 14 (by decide)]
 clear hΦ e1
 refine wpList_nil ?_
 go_upto_region 2 with (fail)
 refine rgs 16 [some 20, some 21, some 22, some 23, some 24, some 25, some 26, some 27, some 28, some 29, some 30, some 31, some 32, some 33, some 34, some 35] [IsV (.pointer (some ⟨w.heap.size, 0, none⟩)), IsI k l1, IsV (.pointer (some ⟨w.heap.size + 1, 2, none⟩)), IsI k u2, IsV (.int .i64 c3'), IsV (.bool true), IsV (.bool true), IsV (.pointer (some ⟨w.heap.size + 1, 0, none⟩)), IsI k l2, IsV (.pointer (some ⟨w.heap.size, 2, none⟩)), IsI k u1, IsV (.int .i64 c4'), IsV (.bool b4), IsV (.bool b4), IsV (.bool b2), IsK 2 (truthV b4 b2)] [] ?_ ?_ (hst := by repeat' (first | exact trivial | exact IsV.stb _ | exact IsKn.stb _ _ _ _ | exact IsI.stb _ _ | apply And.intro))
 ·refine Rc (fa (fa_Kn0 w.heap.size 0) (Od.lit 2)) ?_
  refine Rc (lvI 0 B1 h1 ld_Int (Od.lc 0 20)) ?_
  refine Rc (fa (fa_Kn1 (w.heap.size + 1) 0) (Od.lit 3)) ?_
  refine Rc (lvI 2 B2 h4 ld_Int (Od.lc 2 22)) ?_
  refine Rc (cl2 (en Tryz.func150) (Od.lc (Φ := IsI k l1) 1 21) (Od.lc (Φ := IsI k u2) 3 23) (fun x0 x1 w' hE d0 d1 => Calls.mono (Cmp_f d0 d1 (by have := HK.out; omega) (by have := HK.out; omega)) fun _ _ h => h.int HC3.out)) ?_
  refine Rc (bn (r := .bool true) (Od.loc 4 24) Od.con (hr := fun w => by have hx9 := HB3.out; go_simp)) ?_
  refine Rc (mv (Od.lc 5 25)) ?_
  refine RcG 6 26 true (fa (fa_Kn0 (w.heap.size + 1) 0) (Od.lit 3)) ?_
  refine RcG 6 26 true (lvI 0 B2 h3 ld_Int (Od.lc 7 27)) ?_
  refine RcG 6 26 true (fa (fa_Kn1 w.heap.size 0) (Od.lit 2)) ?_
  refine RcG 6 26 true (lvI 2 B1 h2 ld_Int (Od.lc 9 29)) ?_
  refine RcG 6 26 true (cl2 (en Tryz.func150) (Od.lc (Φ := IsI k l2) 8 28) (Od.lc (Φ := IsI k u1) 10 30) (fun x0 x1 w' hE d0 d1 => Calls.mono (Cmp_f d0 d1 (by have := HK.out; omega) (by have := HK.out; omega)) fun _ _ h => h.int HC4.out)) ?_
  refine RcG 6 26 true (bn (r := .bool b4) (Od.loc 11 31) Od.con (hr := fun w => by have hx9 := HB4.out; go_simp)) ?_
  refine Rc (pk (Od.loc 6 26) (Od.lc 12 32)) ?_
  refine Rc (mv (Od.lit 5)) ?_
  refine Rc (cl2 (en Tryz.func149) (Od.lc (Φ := IsV (.bool b4)) 13 33) (Od.lc (Φ := IsV (.bool b2)) 14 34) (fun x0 x1 w' hE d0 d1 => by { obtain rfl : x0 = .bool b4 := d0; obtain rfl : x1 = .bool b2 := d1; exact truth_f w' b4 b2 })) ?_
  exact RgAll.nil
 intro v W1 e1 hΦ _
 replace E := E.trans e1
 replace B3 := B3.ext e1
 obtain ⟨s5, a5, n5, c5, s6, a6, n6, c6, hv, g1, g2⟩ := hΦ 15 (by decide)
 simp only [layL, Act.put, uAx, u0x, u1x, Nat.reduceAdd]
 rw [hv]
 clear hv hΦ e1 B1 B2 h1 h2 h3 h4
 refine stL (fun K hK => ?_)
 refine stV (us := [.bool s5, .slice a5 n5 c5, .bool s6, .slice a6 n6 c6, .bool (truthV b4 b2).fin]) B3 st_Kn rfl rfl nw5 E (by omega) (fun W2 B4 E2 G2 _ _ => hK _ _ ?_)
 refine wpList_nil ?_
 have d0 := B4.c 0 _ rfl; have d1 := B4.c 1 _ rfl; have d2 := B4.c 2 _ rfl; have d3 := B4.c 3 _ rfl; have d4 := B4.c 4 _ rfl
 go_wp2_with fail
 exact bodyPost_ret (v := .agg #[.bool s5, .slice a5 n5 c5, .bool s6, .slice a6 n6 c6, .bool (truthV b4 b2).fin]) (by simp [results, Tryz.results151, go_sem, d0, d1, d2, d3, d4]) rfl ⟨_, rfl, E2, _, _, _, _, _, _, _, _, rfl, IsI.gstb _ _ _ _ _ G2 g1, IsI.gstb _ _ _ _ _ G2 g2⟩

set_option maxRecDepth 100000 in
set_option maxHeartbeats 8000000 in
theorem opEq_ff {k : Nat} {l1 u1 l2 u2 c1' c2' c3' c4' : Int} {f1 f2 : Bool} {x y : Value} {w : World} (hx : IsKn k l1 u1 f1 x w) (hy : IsKn k l2 u2 f2 y w) (HK : Hid (k ≤ 1000)) {b2 b4 : Bool} (HC1 : Hid (cmpI u1 l2 = c1')) (HB1 : Hid (decide (c1' < 0) = false)) (HC2 : Hid (cmpI u2 l1 = c2')) (HB2 : Hid (decide (c2' < 0) = b2)) (HC3 : Hid (cmpI l1 u2 = c3')) (HB3 : Hid (¬ c3' = 0)) : Calls Tryz.prog 151 #[x, y] w (Ret w (IsK 2 (truthV false b2))) := by
 obtain ⟨s1, a1, n1, c1, s2, a2, n2, c2, rfl, h1, h2⟩ := hx
 obtain ⟨s3, a3, n3, c3, s4, a4, n4, c4, rfl, h3, h4⟩ := hy
 obtain ⟨W, hW, E, B1, B2, B3⟩ : ∃ W, W = ((w.alloc (.cells #[.bool s1, .slice a1 n1 c1, .bool s2, .slice a2 n2 c2, .bool f1] 176)).alloc (.cells #[.bool s3, .slice a3 n3 c3, .bool s4, .slice a4 n4 c4, .bool f2] 176)).alloc (.cells #[.bool false, .slice none 0 0, .bool false, .slice none 0 0, .bool false] 176) ∧ Ext w W ∧ Bk W w.heap.size [.bool s1, .slice a1 n1 c1, .bool s2, .slice a2 n2 c2, .bool f1] ∧ Bk W (w.heap.size + 1) [.bool s3, .slice a3 n3 c3, .bool s4, .slice a4 n4 c4, .bool f2] ∧ Bk W (w.heap.size + 2) [.bool false, .slice none 0 0, .bool false, .slice none 0 0, .bool false] :=
  ⟨_, rfl, (((Ext.refl w).alloc _).alloc _).alloc _, (Bk.new w _ _).ext (((Ext.refl _).alloc _).alloc _), (Bk.newE _ _ (by simp) _ _).ext ((Ext.refl _).alloc _), Bk.newE _ _ (by simp) _ _⟩
 replace h1 := h1.ext E
 replace h2 := h2.ext E
 replace h3 := h3.ext E
 replace h4 := h4.ext E
 go_enter Tryz.func151, Tryz.ntmps151
 go_upto_region 1 with (fail)
 rw [← hW]
 clear hW
 refine rgs 15 [some 6, some 7, some 8, some 9, some 10, some 11, some 12, some 13, some 14, some 15, some 16, some 17, some 18, some 19, some 5] [IsV (.pointer (some ⟨w.heap.size, 2, none⟩)), IsI k u1, IsV (.pointer (some ⟨w.heap.size + 1, 0, none⟩)), IsI k l2, IsV (.int .i64 c1'), IsV (.bool false), IsV (.bool false), IsV (.pointer (some ⟨w.heap.size + 1, 2, none⟩)), IsI k u2, IsV (.pointer (some ⟨w.heap.size, 0, none⟩)), IsI k l1, IsV (.int .i64 c2'), IsV (.bool b2), IsV (.bool b2), IsV (.bool b2)] [] ?_ ?_ (hst := by repeat' (first | exact trivial | exact IsV.stb _ | exact IsKn.stb _ _ _ _ | exact IsI.stb _ _ | apply And.intro))
 ·refine Rc (fa (fa_Kn1 w.heap.size 0) (Od.lit 2)) ?_
  refine Rc (lvI 2 B1 h2 ld_Int (Od.lc 0 6)) ?_
  refine Rc (fa (fa_Kn0 (w.heap.size + 1) 0) (Od.lit 3)) ?_
  refine Rc (lvI 0 B2 h3 ld_Int (Od.lc 2 8)) ?_
  refine Rc (cl2 (en Tryz.func150) (Od.lc (Φ := IsI k u1) 1 7) (Od.lc (Φ := IsI k l2) 3 9) (fun x0 x1 w' hE d0 d1 => Calls.mono (Cmp_f d0 d1 (by have := HK.out; omega) (by have := HK.out; omega)) fun _ _ h => h.int HC1.out)) ?_
  refine Rc (bn (r := .bool false) (Od.loc 4 10) Od.con (hr := fun w => by have hx9 := HB1.out; go_simp)) ?_
  refine Rc (mv (Od.lc 5 11)) ?_
  refine RcG 6 12 false (fa (fa_Kn1 (w.heap.size + 1) 0) (Od.lit 3)) ?_
  refine RcG 6 12 false (lvI 2 B2 h4 ld_Int (Od.lc 7 13)) ?_
  refine RcG 6 12 false (fa (fa_Kn0 w.heap.size 0) (Od.lit 2)) ?_
  refine RcG 6 12 false (lvI 0 B1 h1 ld_Int (Od.lc 9 15)) ?_
  refine RcG 6 12 false (cl2 (en Tryz.func150) (Od.lc (Φ := IsI k u2) 8 14) (Od.lc (Φ := IsI k l1) 10 16) (fun x0 x1 w' hE d0 d1 => Calls.mono (Cmp_f d0 d1 (by have := HK.out; omega) (by have := HK.out; omega)) fun _ _ h => h.int HC2.out)) ?_
  refine RcG 6 12 false (bn (r := .bool b2) (Od.loc 11 17) Od.con (hr := fun w => by have hx9 := HB2.out; go_simp)) ?_
  refine Rc (pk (Od.loc 6 12) (Od.lc 12 18)) ?_
  refine Rc (mv (Od.lc 13 19)) ?_
  exact RgAll.nil
 intro v W1 e1 hΦ _
 replace E := E.trans e1
 replace B1 := B1.ext e1
 replace B2 := B2.ext e1
 replace B3 := B3.ext e1
 replace h1 := h1.ext e1
 replace h2 := h2.ext e1
 replace h3 := h3.ext e1
 replace h4 := h4.ext e1
 simp only [layL, Act.put, uAx, u0x, u1x, Nat.reduceAdd]
 rw [show v 14 = .bool b2 from hΦ 14 (by decide)]
 clear hΦ e1
 refine wpList_nil ?_
 go_upto_region 2 with (fail)
 refine rgs 16 [some 20, some 21, some 22, some 23, some 24, some 25, some 26, some 27, some 28, some 29, some 30, some 31, some 32, some 33, some 34, some 35] [IsV (.pointer (some ⟨w.heap.size, 0, none⟩)), IsI k l1, IsV (.pointer (some ⟨w.heap.size + 1, 2, none⟩)), IsI k u2, IsV (.int .i64 c3'), IsV (.bool false), IsV (.bool false), IsV undef, IsV undef, IsV undef, IsV undef, IsV undef, IsV undef, IsV (.bool false), IsV (.bool b2), IsK 2 (truthV false b2)] [] ?_ ?_ (hst := by repeat' (first | exact trivial | exact IsV.stb _ | exact IsKn.stb _ _ _ _ | exact IsI.stb _ _ | apply And.intro))
 ·refine Rc (fa (fa_Kn0 w.heap.size 0) (Od.lit 2)) ?_
  refine Rc (lvI 0 B1 h1 ld_Int (Od.lc 0 20)) ?_
  refine Rc (fa (fa_Kn1 (w.heap.size + 1) 0) (Od.lit 3)) ?_
  refine Rc (lvI 2 B2 h4 ld_Int (Od.lc 2 22)) ?_
  refine Rc (cl2 (en Tryz.func150) (Od.lc (Φ := IsI k l1) 1 21) (Od.lc (Φ := IsI k u2) 3 23) (fun x0 x1 w' hE d0 d1 => Calls.mono (Cmp_f d0 d1 (by have := HK.out; omega) (by have := HK.out; omega)) fun _ _ h => h.int HC3.out)) ?_
  refine Rc (bn (r := .bool false) (Od.loc 4 24) Od.con (hr := fun w => by have hx9 := HB3.out; go_simp)) ?_
  refine Rc (mv (Od.lc 5 25)) ?_
  refine RcN 6 26 false ?_
  refine RcN 6 26 false ?_
  refine RcN 6 26 false ?_
  refine RcN 6 26 false ?_
  refine RcN 6 26 false ?_
  refine RcN 6 26 false ?_
  refine Rc (pk (Od.loc 6 26) Od.con) ?_
  refine Rc (mv (Od.lit 5)) ?_
  refine Rc (cl2 (en Tryz.func149) (Od.lc (Φ := IsV (.bool false)) 13 33) (Od.lc (Φ := IsV (.bool b2)) 14 34) (fun x0 x1 w' hE d0 d1 => by { obtain rfl : x0 = .bool false := d0; obtain rfl : x1 = .bool b2 := d1; exact truth_f w' false b2 })) ?_
  exact RgAll.nil
 intro v W1 e1 hΦ _
 replace E := E.trans e1
 replace B3 := B3.ext e1
 obtain ⟨s5, a5, n5, c5, s6, a6, n6, c6, hv, g1, g2⟩ := hΦ 15 (by decide)
 simp only [layL, Act.put, uAx, u0x, u1x, Nat.reduceAdd]
 rw [hv]
 clear hv hΦ e1 B1 B2 h1 h2 h3 h4
 refine stL (fun K hK => ?_)
 refine stV (us := [.bool s5, .slice a5 n5 c5, .bool s6, .slice a6 n6 c6, .bool (truthV false b2).fin]) B3 st_Kn rfl rfl nw5 E (by omega) (fun W2 B4 E2 G2 _ _ => hK _ _ ?_)
 refine wpList_nil ?_
 have d0 := B4.c 0 _ rfl; have d1 := B4.c 1 _ rfl; have d2 := B4.c 2 _ rfl; have d3 := B4.c 3 _ rfl; have d4 := B4.c 4 _ rfl
 go_wp2_with fail
 exact bodyPost_ret (v := .agg #[.bool s5, .slice a5 n5 c5, .bool s6, .slice a6 n6 c6, .bool (truthV false b2).fin]) (by simp [results, Tryz.results151, go_sem, d0, d1, d2, d3, d4]) rfl ⟨_, rfl, E2, _, _, _, _, _, _, _, _, rfl, IsI.gstb _ _ _ _ _ G2 g1, IsI.gstb _ _ _ _ _ G2 g2⟩

end Go.Proofs.YtkeikfekkdplgaaGreatDoor
