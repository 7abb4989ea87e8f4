/-
  Intervals of package rational: within one another, the same, common part. (Printed by wip/gen/rat13.py.)
-/
import Derived.Test.YtcgdkfadcglekaaGreatDoorQ11
import Derived.Test.YtcgdkfadcglekaaGreatDoorQH
namespace Go.Proofs.YtcgdkfadcglekaaGreatDoor
open Go Go.RowKit

/-- Whether an interval lies within another. -/
def insQ (p q r u : Rat) : Bool := hasQ r u p && hasQ r u q

set_option maxRecDepth 100000 in
set_option maxHeartbeats 4000000 in
theorem qInside_f {k1 k2 : Nat} {p q r u : Rat} {x y : Value} {w : World} (hx : IsIv k1 p q x w) (hy : IsIv k2 r u y w) (l : k1 ≤ 10000 ∧ k2 ≤ 10000) : Calls Tryz.prog 59 #[x, y] w (Ret w (IsV (.bool (insQ p q r u)))) := by
  have HK := hid l
  clear l
  obtain ⟨b1, hb1⟩ : ∃ x, hasQ r u p = x := ⟨_, rfl⟩
  have H1 := hid hb1
  obtain ⟨b2, hb2⟩ : ∃ x, hasQ r u q = x := ⟨_, rfl⟩
  have H2 := hid hb2
  obtain ⟨b3, hb3⟩ : ∃ x, (b1 && b2) = x := ⟨_, rfl⟩
  have H3 := hid hb3
  have H4 := hid (show IsV (.bool (insQ p q r u)) (.bool b3) w from by unfold insQ; rw [hb1, hb2, hb3]; rfl)
  clear hb1 hb2 hb3
  obtain ⟨s1x, a1x, n1x, c1x, s1y, a1y, n1y, c1y, s1z, a1z, n1z, c1z, s1t, a1t, n1t, c1t, rfl, h1x, h1y, h1z, h1t⟩ := hx
  obtain ⟨s2x, a2x, n2x, c2x, s2y, a2y, n2y, c2y, s2z, a2z, n2z, c2z, s2t, a2t, n2t, c2t, rfl, h2x, h2y, h2z, h2t⟩ := hy
  obtain ⟨W, hW, S⟩ : ∃ W, W = (w.alloc (.cells #[.bool s1x, .slice a1x n1x c1x, .bool s1y, .slice a1y n1y c1y, .bool s1z, .slice a1z n1z c1z, .bool s1t, .slice a1t n1t c1t] 44)).alloc (.cells #[.bool s2x, .slice a2x n2x c2x, .bool s2y, .slice a2y n2y c2y, .bool s2z, .slice a2z n2z c2z, .bool s2t, .slice a2t n2t c2t] 44) ∧ Sto w W [((w.heap.size + 1, 3), IsI k2 ((u.den : Int))), ((w.heap.size + 1, 2), IsI k2 u.num), ((w.heap.size + 1, 1), IsI k2 ((r.den : Int))), ((w.heap.size + 1, 0), IsI k2 r.num), ((w.heap.size, 3), IsI k1 ((q.den : Int))), ((w.heap.size, 2), IsI k1 q.num), ((w.heap.size, 1), IsI k1 ((p.den : Int))), ((w.heap.size, 0), IsI k1 p.num)] := ⟨_, rfl, (((Sto.start w).new4 (w.heap.size) (by simp) s1x s1y s1z s1t a1x a1y a1z a1t n1x c1x n1y c1y n1z c1z n1t c1t 44 (IsI k1 p.num) (IsI k1 ((p.den : Int))) (IsI k1 q.num) (IsI k1 ((q.den : Int))) (IsI.gstb _ _) (h1x) (IsI.gstb _ _) (h1y) (IsI.gstb _ _) (h1z) (IsI.gstb _ _) (h1t)).new4 (w.heap.size + 1) (by simp) s2x s2y s2z s2t a2x a2y a2z a2t n2x c2x n2y c2y n2z c2z n2t c2t 44 (IsI k2 r.num) (IsI k2 ((r.den : Int))) (IsI k2 u.num) (IsI k2 ((u.den : Int))) (IsI.gstb _ _) (h2x.ext ((Ext.refl _).alloc _)) (IsI.gstb _ _) (h2y.ext ((Ext.refl _).alloc _)) (IsI.gstb _ _) (h2z.ext ((Ext.refl _).alloc _)) (IsI.gstb _ _) (h2t.ext ((Ext.refl _).alloc _)))⟩
  clear h1x h1y h1z h1t h2x h2y h2z h2t
  go_enter Tryz.func59, Tryz.ntmps59
  go_upto_region 1 with (fail)
  rw [← hW]
  clear hW
  refine rgs 11 [some 5, some 6, some 7, some 8, some 9, some 10, some 11, some 12, some 13, some 14, some 4] [IsJ (IsI k2 r.num) (IsI k2 ((r.den : Int))) (IsI k2 u.num) (IsI k2 ((u.den : Int))), IsV (.pointer (some ⟨w.heap.size, 0, none⟩)), IsQ (IsI k1 p.num) (IsI k1 ((p.den : Int))), IsV (.bool b1), IsV (.bool b1), IsIf (b1) (IsJ (IsI k2 r.num) (IsI k2 ((r.den : Int))) (IsI k2 u.num) (IsI k2 ((u.den : Int)))), IsIf (b1) (IsV (.pointer (some ⟨w.heap.size, 4, none⟩))), IsIf (b1) (IsQ (IsI k1 q.num) (IsI k1 ((q.den : Int)))), IsIf (b1) (IsV (.bool b2)), IsV (.bool b3), IsV (.bool b3)] [] ?_ ?_ (hst := by repeat' (first | exact trivial | apply IsIf.stb | exact IsV.stb _ | exact IsI.stb _ _ | apply IsJ.stb | apply IsQ.stb | apply And.intro))
  · refine Rc (ldJ S 3 2 1 0 (w.heap.size + 1) 0 (Od.lit 3) ld_Iv rfl rfl rfl rfl) ?_
    refine Rc (fa (fa_Iv0 (w.heap.size) 0) (Od.lit 2)) ?_
    refine Rc (ldQ S 7 6 (w.heap.size) 0 (Od.lc 1 6) ld_Rat rfl rfl) ?_
    refine Rc (cl2 (en Tryz.func58) (Od.lc (Φ := IsJ (IsI k2 r.num) (IsI k2 ((r.den : Int))) (IsI k2 u.num) (IsI k2 ((u.den : Int)))) 0 5) (Od.lc (Φ := IsQ (IsI k1 p.num) (IsI k1 ((p.den : Int)))) 2 7) (fun x0 x1 w' hE d0 d1 => Calls.mono (qHas_f d0 d1 (by have := HK.out; omega)) fun _ _ h => RetB h H1.out)) ?_
    refine Rc (mv (Od.lc 3 8)) ?_
    refine RcB 4 9 b1 true (fun hb => by subst hb; exact ldJ S 3 2 1 0 (w.heap.size + 1) 0 (Od.lit 3) ld_Iv rfl rfl rfl rfl) ?_
    refine RcB 4 9 b1 true (fun hb => by subst hb; exact fa (fa_Iv1 (w.heap.size) 0) (Od.lit 2)) ?_
    refine RcB 4 9 b1 true (fun hb => by subst hb; exact ldQ S 5 4 (w.heap.size) 2 (Od.lc 6 11) ld_Rat rfl rfl) ?_
    refine RcB 4 9 b1 true (fun hb => by subst hb; exact cl2 (en Tryz.func58) (Od.lc (Φ := IsJ (IsI k2 r.num) (IsI k2 ((r.den : Int))) (IsI k2 u.num) (IsI k2 ((u.den : Int)))) 5 10) (Od.lc (Φ := IsQ (IsI k1 q.num) (IsI k1 ((q.den : Int)))) 7 12) (fun x0 x1 w' hE d0 d1 => Calls.mono (qHas_f d0 d1 (by have := HK.out; omega)) fun _ _ h => RetB h H2.out)) ?_
    refine Rc (pkA (b2 := b2) (Od.loc 4 9) (fun hb => by subst hb; exact Od.lc 8 13) (H3.out)) ?_
    refine Rc (mv (Od.lc 9 14)) ?_
    exact RgAll.nil
  intro v W1 e1 hΦ _
  replace S := S.mono e1
  have v10 : v 10 = .bool b3 := hΦ 10 (by decide)
  simp only [layL, Act.put, List.setIfInBounds_toArray, List.set_cons_zero, List.set_cons_succ, Nat.reduceAdd]
  rw [v10]
  clear v10 hΦ e1
  refine wpList_nil ?_
  go_wp2_with fail
  exact bodyPost_ret (v := .bool b3) (by simp [results, Tryz.results59, go_sem]) rfl (⟨_, rfl, S.ext, H4.out⟩)

theorem cmpQ_cases (p q : Rat) : (p < q ∧ cmpQ p q = -1) ∨ (p = q ∧ cmpQ p q = 0) ∨ (q < p ∧ cmpQ p q = 1) := by
  rcases Int.lt_trichotomy (p.num * (q.den : Int)) (q.num * (p.den : Int)) with h | h | h
  · exact .inl ⟨(rat_lt p q).2 h, cmpI_lt h⟩
  · exact .inr (.inl ⟨(rat_eq p q).2 h, cmpI_eq h⟩)
  · exact .inr (.inr ⟨(rat_lt q p).2 h, cmpI_gt h⟩)
theorem rqSame_b {k1 k2 : Nat} {p q : Rat} {x y : Value} {w : World} {b : Bool} (hx : IsRat k1 p x w) (hy : IsRat k2 q y w) (l1 : k1 ≤ 1048576) (h : (p = q ∧ b = true) ∨ (p ≠ q ∧ b = false)) : Calls Tryz.prog 18 #[x, y] w (Ret w (IsV (.bool b))) := by
  rcases h with ⟨h, rfl⟩ | ⟨h, rfl⟩
  · exact rqSame_eq hx hy l1 h
  · exact rqSame_ne hx hy l1 h
theorem rqSame_d {k1 k2 : Nat} {p q : Rat} {x y : Value} {w : World} (hx : IsRat k1 p x w) (hy : IsRat k2 q y w) (l1 : k1 ≤ 1048576) : Calls Tryz.prog 18 #[x, y] w (Ret w (IsV (.bool (decide (p = q))))) := by
  by_cases h : p = q
  · exact rqSame_b hx hy l1 (.inl ⟨h, by simp [h]⟩)
  · exact rqSame_b hx hy l1 (.inr ⟨h, by simp [h]⟩)

set_option maxRecDepth 100000 in
set_option maxHeartbeats 4000000 in
theorem rqSameI_f {k1 k2 : Nat} {p q r u : Rat} {x y : Value} {w : World} (hx : IsIv k1 p q x w) (hy : IsIv k2 r u y w) (l : k1 ≤ 10000 ∧ k2 ≤ 10000) : Calls Tryz.prog 60 #[x, y] w (Ret w (IsV (.bool (decide (p = r) && decide (q = u))))) := by
  have HK := hid l
  clear l
  obtain ⟨b1, hb1⟩ : ∃ x, decide (p = r) = x := ⟨_, rfl⟩
  have H1 := hid hb1
  obtain ⟨b2, hb2⟩ : ∃ x, decide (q = u) = x := ⟨_, rfl⟩
  have H2 := hid hb2
  obtain ⟨b3, hb3⟩ : ∃ x, (b1 && b2) = x := ⟨_, rfl⟩
  have H3 := hid hb3
  have H4 := hid (show IsV (.bool (decide (p = r) && decide (q = u))) (.bool b3) w from by rw [hb1, hb2, hb3]; rfl)
  clear hb1 hb2 hb3
  obtain ⟨s1x, a1x, n1x, c1x, s1y, a1y, n1y, c1y, s1z, a1z, n1z, c1z, s1t, a1t, n1t, c1t, rfl, h1x, h1y, h1z, h1t⟩ := hx
  obtain ⟨s2x, a2x, n2x, c2x, s2y, a2y, n2y, c2y, s2z, a2z, n2z, c2z, s2t, a2t, n2t, c2t, rfl, h2x, h2y, h2z, h2t⟩ := hy
  obtain ⟨W, hW, S⟩ : ∃ W, W = (w.alloc (.cells #[.bool s1x, .slice a1x n1x c1x, .bool s1y, .slice a1y n1y c1y, .bool s1z, .slice a1z n1z c1z, .bool s1t, .slice a1t n1t c1t] 44)).alloc (.cells #[.bool s2x, .slice a2x n2x c2x, .bool s2y, .slice a2y n2y c2y, .bool s2z, .slice a2z n2z c2z, .bool s2t, .slice a2t n2t c2t] 44) ∧ Sto w W [((w.heap.size + 1, 3), IsI k2 ((u.den : Int))), ((w.heap.size + 1, 2), IsI k2 u.num), ((w.heap.size + 1, 1), IsI k2 ((r.den : Int))), ((w.heap.size + 1, 0), IsI k2 r.num), ((w.heap.size, 3), IsI k1 ((q.den : Int))), ((w.heap.size, 2), IsI k1 q.num), ((w.heap.size, 1), IsI k1 ((p.den : Int))), ((w.heap.size, 0), IsI k1 p.num)] := ⟨_, rfl, (((Sto.start w).new4 (w.heap.size) (by simp) s1x s1y s1z s1t a1x a1y a1z a1t n1x c1x n1y c1y n1z c1z n1t c1t 44 (IsI k1 p.num) (IsI k1 ((p.den : Int))) (IsI k1 q.num) (IsI k1 ((q.den : Int))) (IsI.gstb _ _) (h1x) (IsI.gstb _ _) (h1y) (IsI.gstb _ _) (h1z) (IsI.gstb _ _) (h1t)).new4 (w.heap.size + 1) (by simp) s2x s2y s2z s2t a2x a2y a2z a2t n2x c2x n2y c2y n2z c2z n2t c2t 44 (IsI k2 r.num) (IsI k2 ((r.den : Int))) (IsI k2 u.num) (IsI k2 ((u.den : Int))) (IsI.gstb _ _) (h2x.ext ((Ext.refl _).alloc _)) (IsI.gstb _ _) (h2y.ext ((Ext.refl _).alloc _)) (IsI.gstb _ _) (h2z.ext ((Ext.refl _).alloc _)) (IsI.gstb _ _) (h2t.ext ((Ext.refl _).alloc _)))⟩
  clear h1x h1y h1z h1t h2x h2y h2z h2t
  go_enter Tryz.func60, Tryz.ntmps60
  go_upto_region 1 with (fail)
  rw [← hW]
  clear hW
  refine rgs 13 [some 5, some 6, some 7, some 8, some 9, some 10, some 11, some 12, some 13, some 14, some 15, some 16, some 4] [IsV (.pointer (some ⟨w.heap.size, 0, none⟩)), IsQ (IsI k1 p.num) (IsI k1 ((p.den : Int))), IsV (.pointer (some ⟨w.heap.size + 1, 0, none⟩)), IsQ (IsI k2 r.num) (IsI k2 ((r.den : Int))), IsV (.bool b1), IsV (.bool b1), IsIf (b1) (IsV (.pointer (some ⟨w.heap.size, 4, none⟩))), IsIf (b1) (IsQ (IsI k1 q.num) (IsI k1 ((q.den : Int)))), IsIf (b1) (IsV (.pointer (some ⟨w.heap.size + 1, 4, none⟩))), IsIf (b1) (IsQ (IsI k2 u.num) (IsI k2 ((u.den : Int)))), IsIf (b1) (IsV (.bool b2)), IsV (.bool b3), IsV (.bool b3)] [] ?_ ?_ (hst := by repeat' (first | exact trivial | apply IsIf.stb | exact IsV.stb _ | exact IsI.stb _ _ | apply IsJ.stb | apply IsQ.stb | apply And.intro))
  · refine Rc (fa (fa_Iv0 (w.heap.size) 0) (Od.lit 2)) ?_
    refine Rc (ldQ S 7 6 (w.heap.size) 0 (Od.lc 0 5) ld_Rat rfl rfl) ?_
    refine Rc (fa (fa_Iv0 (w.heap.size + 1) 0) (Od.lit 3)) ?_
    refine Rc (ldQ S 3 2 (w.heap.size + 1) 0 (Od.lc 2 7) ld_Rat rfl rfl) ?_
    refine Rc (cl2 (en Tryz.func18) (Od.lc (Φ := IsQ (IsI k1 p.num) (IsI k1 ((p.den : Int)))) 1 6) (Od.lc (Φ := IsQ (IsI k2 r.num) (IsI k2 ((r.den : Int)))) 3 8) (fun x0 x1 w' hE d0 d1 => Calls.mono (rqSame_d d0 d1 (by have := HK.out; omega)) fun _ _ h => RetB h H1.out)) ?_
    refine Rc (mv (Od.lc 4 9)) ?_
    refine RcB 5 10 b1 true (fun hb => by subst hb; exact fa (fa_Iv1 (w.heap.size) 0) (Od.lit 2)) ?_
    refine RcB 5 10 b1 true (fun hb => by subst hb; exact ldQ S 5 4 (w.heap.size) 2 (Od.lc 6 11) ld_Rat rfl rfl) ?_
    refine RcB 5 10 b1 true (fun hb => by subst hb; exact fa (fa_Iv1 (w.heap.size + 1) 0) (Od.lit 3)) ?_
    refine RcB 5 10 b1 true (fun hb => by subst hb; exact ldQ S 1 0 (w.heap.size + 1) 2 (Od.lc 8 13) ld_Rat rfl rfl) ?_
    refine RcB 5 10 b1 true (fun hb => by subst hb; exact cl2 (en Tryz.func18) (Od.lc (Φ := IsQ (IsI k1 q.num) (IsI k1 ((q.den : Int)))) 7 12) (Od.lc (Φ := IsQ (IsI k2 u.num) (IsI k2 ((u.den : Int)))) 9 14) (fun x0 x1 w' hE d0 d1 => Calls.mono (rqSame_d d0 d1 (by have := HK.out; omega)) fun _ _ h => RetB h H2.out)) ?_
    refine Rc (pkA (b2 := b2) (Od.loc 5 10) (fun hb => by subst hb; exact Od.lc 10 15) (H3.out)) ?_
    refine Rc (mv (Od.lc 11 16)) ?_
    exact RgAll.nil
  intro v W1 e1 hΦ _
  replace S := S.mono e1
  have v12 : v 12 = .bool b3 := hΦ 12 (by decide)
  simp only [layL, Act.put, List.setIfInBounds_toArray, List.set_cons_zero, List.set_cons_succ, Nat.reduceAdd]
  rw [v12]
  clear v12 hΦ e1
  refine wpList_nil ?_
  go_wp2_with fail
  exact bodyPost_ret (v := .bool b3) (by simp [results, Tryz.results60, go_sem]) rfl (⟨_, rfl, S.ext, H4.out⟩)

set_option maxRecDepth 100000 in
set_option maxHeartbeats 4000000 in
theorem qMeet_n {k : Nat} {p q r u : Rat} {x y : Value} {w : World} (hx : IsIv k p q x w) (hy : IsIv k r u y w) (l : k ≤ 10000) (h2 : decide (0 < cmpQ (greatR p [r]) (leastR q [u])) = true) : Calls Tryz.prog 57 #[x, y] w (Ret w (IsT2 (IsJ (IsI 0 0) (IsI 0 0) (IsI 0 0) (IsI 0 0)) (IsV (.bool false)))) := by
  have HK := hid l
  clear l
  obtain ⟨c1, hc1⟩ : ∃ x, cmpQ (greatR p [r]) (leastR q [u]) = x := ⟨_, rfl⟩
  have H1 := hid hc1
  rw [hc1] at h2
  have H2 := hid h2
  clear hc1 h2
  obtain ⟨s1x, a1x, n1x, c1x, s1y, a1y, n1y, c1y, s1z, a1z, n1z, c1z, s1t, a1t, n1t, c1t, rfl, h1x, h1y, h1z, h1t⟩ := hx
  obtain ⟨s2x, a2x, n2x, c2x, s2y, a2y, n2y, c2y, s2z, a2z, n2z, c2z, s2t, a2t, n2t, c2t, rfl, h2x, h2y, h2z, h2t⟩ := hy
  obtain ⟨W, hW, S⟩ : ∃ W, W = ((w.alloc (.cells #[.bool s1x, .slice a1x n1x c1x, .bool s1y, .slice a1y n1y c1y, .bool s1z, .slice a1z n1z c1z, .bool s1t, .slice a1t n1t c1t] 44)).alloc (.cells #[.bool s2x, .slice a2x n2x c2x, .bool s2y, .slice a2y n2y c2y, .bool s2z, .slice a2z n2z c2z, .bool s2t, .slice a2t n2t c2t] 44)).alloc (.cells #[.bool false, .slice none 0 0, .bool false, .slice none 0 0, .bool false, .slice none 0 0, .bool false, .slice none 0 0] 44) ∧ Sto w W [((w.heap.size + 1 + 1, 3), IsI 0 0), ((w.heap.size + 1 + 1, 2), IsI 0 0), ((w.heap.size + 1 + 1, 1), IsI 0 0), ((w.heap.size + 1 + 1, 0), IsI 0 0), ((w.heap.size + 1, 3), IsI k ((u.den : Int))), ((w.heap.size + 1, 2), IsI k u.num), ((w.heap.size + 1, 1), IsI k ((r.den : Int))), ((w.heap.size + 1, 0), IsI k r.num), ((w.heap.size, 3), IsI k ((q.den : Int))), ((w.heap.size, 2), IsI k q.num), ((w.heap.size, 1), IsI k ((p.den : Int))), ((w.heap.size, 0), IsI k p.num)] := ⟨_, rfl, ((((Sto.start w).new4 (w.heap.size) (by simp) s1x s1y s1z s1t a1x a1y a1z a1t n1x c1x n1y c1y n1z c1z n1t c1t 44 (IsI k p.num) (IsI k ((p.den : Int))) (IsI k q.num) (IsI k ((q.den : Int))) (IsI.gstb _ _) (h1x) (IsI.gstb _ _) (h1y) (IsI.gstb _ _) (h1z) (IsI.gstb _ _) (h1t)).new4 (w.heap.size + 1) (by simp) s2x s2y s2z s2t a2x a2y a2z a2t n2x c2x n2y c2y n2z c2z n2t c2t 44 (IsI k r.num) (IsI k ((r.den : Int))) (IsI k u.num) (IsI k ((u.den : Int))) (IsI.gstb _ _) (h2x.ext ((Ext.refl _).alloc _)) (IsI.gstb _ _) (h2y.ext ((Ext.refl _).alloc _)) (IsI.gstb _ _) (h2z.ext ((Ext.refl _).alloc _)) (IsI.gstb _ _) (h2t.ext ((Ext.refl _).alloc _))).new4 (w.heap.size + 1 + 1) (by simp) false false false false none none none none 0 0 0 0 0 0 0 0 44 (IsI 0 0) (IsI 0 0) (IsI 0 0) (IsI 0 0) (IsI.gstb _ _) (IsI.nil _ _) (IsI.gstb _ _) (IsI.nil _ _) (IsI.gstb _ _) (IsI.nil _ _) (IsI.gstb _ _) (IsI.nil _ _))⟩
  clear h1x h1y h1z h1t h2x h2y h2z h2t
  go_enter Tryz.func57, Tryz.ntmps57
  go_upto_region 1 with (fail)
  rw [← hW]
  clear hW
  have hl := hid S.lt; have hw := S.ext.size
  refine rg 16 [some 7, some 8, some 9, some 10, some 11, some 12, some 13, some 14, some 15, some 16, some 17, some 18, some 19, some 20, some 21, some 6] [IsV (.pointer (some ⟨w.heap.size, 0, none⟩)), IsQ (IsI k p.num) (IsI k ((p.den : Int))), IsV (.pointer (some ⟨w.heap.size + 1, 0, none⟩)), IsQ (IsI k r.num) (IsI k ((r.den : Int))), IsL k [r], IsJ (IsI k ((leastR p [r]).num)) (IsI k (((leastR p [r]).den : Int))) (IsI k ((greatR p [r]).num)) (IsI k (((greatR p [r]).den : Int))), IsQ (IsI k ((greatR p [r]).num)) (IsI k (((greatR p [r]).den : Int))), IsV (.pointer (some ⟨w.heap.size, 4, none⟩)), IsQ (IsI k q.num) (IsI k ((q.den : Int))), IsV (.pointer (some ⟨w.heap.size + 1, 4, none⟩)), IsQ (IsI k u.num) (IsI k ((u.den : Int))), IsL k [u], IsJ (IsI k ((leastR q [u]).num)) (IsI k (((leastR q [u]).den : Int))) (IsI k ((greatR q [u]).num)) (IsI k (((greatR q [u]).den : Int))), IsQ (IsI k ((leastR q [u]).num)) (IsI k (((leastR q [u]).den : Int))), IsJ (IsI k ((greatR p [r]).num)) (IsI k (((greatR p [r]).den : Int))) (IsI k ((leastR q [u]).num)) (IsI k (((leastR q [u]).den : Int))), IsBo W 4] [15] 1 ?_ ?_ (hst := by repeat' (first | exact trivial | exact IsL.stb _ _ | exact IsV.stb _ | exact IsI.stb _ _ | exact IsBo.stb _ _ | apply IsJ.stb | apply IsQ.stb | apply And.intro))
  · refine Rc (fa (fa_Iv0 (w.heap.size) 0) (Od.lit 2)) ?_
    refine Rc (ldQ S 11 10 (w.heap.size) 0 (Od.lc 0 7) ld_Rat rfl rfl) ?_
    refine Rc (fa (fa_Iv0 (w.heap.size + 1) 0) (Od.lit 3)) ?_
    refine Rc (ldQ S 7 6 (w.heap.size + 1) 0 (Od.lc 2 9) ld_Rat rfl rfl) ?_
    refine Rc (bS1 (K := k) (Od.loc 3 10) (by first | decide | omega)) ?_
    refine Rc (cl2 (en Tryz.func109) (Od.lc (Φ := IsQ (IsI k p.num) (IsI k ((p.den : Int)))) 1 8) (Od.lc (Φ := IsL k [r]) 4 11) (fun x0 x1 w' hE d0 d1 => qends_f d0 d1 (by have := HK.out; omega) (by simp))) ?_
    refine Rc (fdH (Od.loc 5 12)) ?_
    refine Rc (fa (fa_Iv1 (w.heap.size) 0) (Od.lit 2)) ?_
    refine Rc (ldQ S 9 8 (w.heap.size) 2 (Od.lc 7 14) ld_Rat rfl rfl) ?_
    refine Rc (fa (fa_Iv1 (w.heap.size + 1) 0) (Od.lit 3)) ?_
    refine Rc (ldQ S 5 4 (w.heap.size + 1) 2 (Od.lc 9 16) ld_Rat rfl rfl) ?_
    refine Rc (bS1 (K := k) (Od.loc 10 17) (by first | decide | omega)) ?_
    refine Rc (cl2 (en Tryz.func109) (Od.lc (Φ := IsQ (IsI k q.num) (IsI k ((q.den : Int)))) 8 15) (Od.lc (Φ := IsL k [u]) 11 18) (fun x0 x1 w' hE d0 d1 => qends_f d0 d1 (by have := HK.out; omega) (by simp))) ?_
    refine Rc (fdL (Od.loc 12 19)) ?_
    refine Rc (bj (Od.loc 6 13) (Od.loc 13 20) bd_Iv) ?_
    refine Rc (al al_Iv) ?_
    exact RgAll.nil
  intro v W1 e1 hΦ _
  replace S := S.mono e1
  have h21 := hΦ 14 (by decide)
  obtain ⟨g6, v15, q2, b1, _⟩ := (hΦ 15 (by decide) : IsBo W 4 (v 15) W1)
  replace S := S.addN 4 (ApartO.old hl.out q2) (Nat.le_trans hw q2) b1
  simp only [newF, List.cons_append, List.nil_append] at S
  simp only [layL, Act.put, List.setIfInBounds_toArray, List.set_cons_zero, List.set_cons_succ, Nat.reduceAdd]
  rw [v15]
  clear b1 hl hw v15 hΦ e1
  refine stA 16 (h := fun KK hKK => stJ S 3 2 1 0 (g6) 0 h21 (IsI.gstb _ _) (IsI.gstb _ _) (IsI.gstb _ _) (IsI.gstb _ _) st_Iv (fun W2 S2 G2 => hKK _ _ ?_) rfl rfl rfl rfl)
  replace S := S2; clear S2 G2 hKK KK h21
  simp only [List.set_cons_zero, List.set_cons_succ] at S
  refine wpAny_done (by kernel_rfl) ?_ _
  go_upto_region 2 with (fail)
  refine rgs 6 [some 22, some 23, some 24, some 25, some 26, some 27] [IsV (.pointer (some ⟨g6, 0, none⟩)), IsQ (IsI k ((greatR p [r]).num)) (IsI k (((greatR p [r]).den : Int))), IsV (.pointer (some ⟨g6, 4, none⟩)), IsQ (IsI k ((leastR q [u]).num)) (IsI k (((leastR q [u]).den : Int))), IsV (.int .i64 c1), IsV (.bool true)] [] ?_ ?_
  · refine Rc (fa (fa_Iv0 (g6) 0) (Od.lit 6)) ?_
    refine Rc (ldQ S 3 2 (g6) 0 (Od.lc 0 22) ld_Rat rfl rfl) ?_
    refine Rc (fa (fa_Iv1 (g6) 0) (Od.lit 6)) ?_
    refine Rc (ldQ S 1 0 (g6) 2 (Od.lc 2 24) ld_Rat rfl rfl) ?_
    refine Rc (cl2 (en Tryz.func21) (Od.lc (Φ := IsQ (IsI k ((greatR p [r]).num)) (IsI k (((greatR p [r]).den : Int)))) 1 23) (Od.lc (Φ := IsQ (IsI k ((leastR q [u]).num)) (IsI k (((leastR q [u]).den : Int)))) 3 25) (fun x0 x1 w' hE d0 d1 => Calls.mono (qCmp_f d0 d1 (by have := HK.out; omega) (by have := HK.out; omega)) fun _ _ h => h.int H1.out)) ?_
    refine Rc (bn (r := .bool true) (Od.loc 4 26) Od.con (hr := fun w => by have hx9 := H2.out; go_simp)) ?_
    exact RgAll.nil
  intro v W3 e1 hΦ _
  replace S := S.mono e1
  have v5 : v 5 = .bool true := hΦ 5 (by decide)
  simp only [layL, Act.put, List.setIfInBounds_toArray, List.set_cons_zero, List.set_cons_succ, Nat.reduceAdd]
  rw [v5]
  clear v5 hΦ e1
  refine wpList_nil ?_
  go_upto_region 3 with (fail)
  refine rgs 1 [some 28] [IsJ (IsI 0 0) (IsI 0 0) (IsI 0 0) (IsI 0 0)] [] ?_ ?_
  · refine Rc (b0 z_Iv nilJ) ?_
    exact RgAll.nil
  intro v W4 e1 hΦ _
  replace S := S.mono e1
  have h28 := hΦ 0 (by decide)
  simp only [layL, Act.put, List.setIfInBounds_toArray, List.set_cons_zero, List.set_cons_succ]
  clear hΦ e1
  try simp only [List.drop_succ_cons, List.drop_zero]
  (with_reducible refine stL ?_ (by rfl)); intro KK hKK; refine stJ S 7 6 5 4 (w.heap.size + 1 + 1) 0 h28 (IsI.gstb _ _) (IsI.gstb _ _) (IsI.gstb _ _) (IsI.gstb _ _) st_Iv (fun W5 S2 G2 => hKK _ _ ?_) rfl rfl rfl rfl
  replace S := S2; clear S2 G2 hKK KK h28
  simp only [List.set_cons_zero, List.set_cons_succ] at S
  refine wpList_step fun K hK => ?_; go_simp; refine hK _ _ ?_; clear hK K
  refine wpList_nil ?_
  go_wp2_with fail
  obtain ⟨s90x, a90x, n90x, c90x, b90x, h90x⟩ := S.at 7 (w.heap.size + 1 + 1) 0 (IsI 0 0) rfl; have L90xa : World.cell? W5 ⟨w.heap.size + 1 + 1, 0, none⟩ = some (.bool s90x) := b90x.c0; have L90xb : World.cell? W5 ⟨w.heap.size + 1 + 1, 1, none⟩ = some (.slice a90x n90x c90x) := b90x.c1
  obtain ⟨s90y, a90y, n90y, c90y, b90y, h90y⟩ := S.at 6 (w.heap.size + 1 + 1) 1 (IsI 0 0) rfl; have L90ya : World.cell? W5 ⟨w.heap.size + 1 + 1, 2, none⟩ = some (.bool s90y) := b90y.c0; have L90yb : World.cell? W5 ⟨w.heap.size + 1 + 1, 3, none⟩ = some (.slice a90y n90y c90y) := b90y.c1
  obtain ⟨s90z, a90z, n90z, c90z, b90z, h90z⟩ := S.at 5 (w.heap.size + 1 + 1) 2 (IsI 0 0) rfl; have L90za : World.cell? W5 ⟨w.heap.size + 1 + 1, 4, none⟩ = some (.bool s90z) := b90z.c0; have L90zb : World.cell? W5 ⟨w.heap.size + 1 + 1, 5, none⟩ = some (.slice a90z n90z c90z) := b90z.c1
  obtain ⟨s90t, a90t, n90t, c90t, b90t, h90t⟩ := S.at 4 (w.heap.size + 1 + 1) 3 (IsI 0 0) rfl; have L90ta : World.cell? W5 ⟨w.heap.size + 1 + 1, 6, none⟩ = some (.bool s90t) := b90t.c0; have L90tb : World.cell? W5 ⟨w.heap.size + 1 + 1, 7, none⟩ = some (.slice a90t n90t c90t) := b90t.c1
  exact bodyPost_ret (v := .tuple #[.agg #[.bool s90x, .slice a90x n90x c90x, .bool s90y, .slice a90y n90y c90y, .bool s90z, .slice a90z n90z c90z, .bool s90t, .slice a90t n90t c90t], .bool false]) (by simp [results, Tryz.results57, go_sem, L90xa, L90xb, L90ya, L90yb, L90za, L90zb, L90ta, L90tb]) rfl (⟨_, rfl, S.ext, ⟨_, _, rfl, ⟨_, _, _, _, _, _, _, _, _, _, _, _, _, _, _, _, rfl, h90x, h90y, h90z, h90t⟩, rfl⟩⟩)

set_option maxRecDepth 100000 in
set_option maxHeartbeats 4000000 in
theorem qMeet_m {k : Nat} {p q r u : Rat} {x y : Value} {w : World} (hx : IsIv k p q x w) (hy : IsIv k r u y w) (l : k ≤ 10000) (h2 : decide (0 < cmpQ (greatR p [r]) (leastR q [u])) = false) : Calls Tryz.prog 57 #[x, y] w (Ret w (IsT2 (IsIv k (greatR p [r]) (leastR q [u])) (IsV (.bool true)))) := by
  have HK := hid l
  clear l
  obtain ⟨c1, hc1⟩ : ∃ x, cmpQ (greatR p [r]) (leastR q [u]) = x := ⟨_, rfl⟩
  have H1 := hid hc1
  rw [hc1] at h2
  have H2 := hid h2
  clear hc1 h2
  obtain ⟨s1x, a1x, n1x, c1x, s1y, a1y, n1y, c1y, s1z, a1z, n1z, c1z, s1t, a1t, n1t, c1t, rfl, h1x, h1y, h1z, h1t⟩ := hx
  obtain ⟨s2x, a2x, n2x, c2x, s2y, a2y, n2y, c2y, s2z, a2z, n2z, c2z, s2t, a2t, n2t, c2t, rfl, h2x, h2y, h2z, h2t⟩ := hy
  obtain ⟨W, hW, S⟩ : ∃ W, W = ((w.alloc (.cells #[.bool s1x, .slice a1x n1x c1x, .bool s1y, .slice a1y n1y c1y, .bool s1z, .slice a1z n1z c1z, .bool s1t, .slice a1t n1t c1t] 44)).alloc (.cells #[.bool s2x, .slice a2x n2x c2x, .bool s2y, .slice a2y n2y c2y, .bool s2z, .slice a2z n2z c2z, .bool s2t, .slice a2t n2t c2t] 44)).alloc (.cells #[.bool false, .slice none 0 0, .bool false, .slice none 0 0, .bool false, .slice none 0 0, .bool false, .slice none 0 0] 44) ∧ Sto w W [((w.heap.size + 1 + 1, 3), IsI 0 0), ((w.heap.size + 1 + 1, 2), IsI 0 0), ((w.heap.size + 1 + 1, 1), IsI 0 0), ((w.heap.size + 1 + 1, 0), IsI 0 0), ((w.heap.size + 1, 3), IsI k ((u.den : Int))), ((w.heap.size + 1, 2), IsI k u.num), ((w.heap.size + 1, 1), IsI k ((r.den : Int))), ((w.heap.size + 1, 0), IsI k r.num), ((w.heap.size, 3), IsI k ((q.den : Int))), ((w.heap.size, 2), IsI k q.num), ((w.heap.size, 1), IsI k ((p.den : Int))), ((w.heap.size, 0), IsI k p.num)] := ⟨_, rfl, ((((Sto.start w).new4 (w.heap.size) (by simp) s1x s1y s1z s1t a1x a1y a1z a1t n1x c1x n1y c1y n1z c1z n1t c1t 44 (IsI k p.num) (IsI k ((p.den : Int))) (IsI k q.num) (IsI k ((q.den : Int))) (IsI.gstb _ _) (h1x) (IsI.gstb _ _) (h1y) (IsI.gstb _ _) (h1z) (IsI.gstb _ _) (h1t)).new4 (w.heap.size + 1) (by simp) s2x s2y s2z s2t a2x a2y a2z a2t n2x c2x n2y c2y n2z c2z n2t c2t 44 (IsI k r.num) (IsI k ((r.den : Int))) (IsI k u.num) (IsI k ((u.den : Int))) (IsI.gstb _ _) (h2x.ext ((Ext.refl _).alloc _)) (IsI.gstb _ _) (h2y.ext ((Ext.refl _).alloc _)) (IsI.gstb _ _) (h2z.ext ((Ext.refl _).alloc _)) (IsI.gstb _ _) (h2t.ext ((Ext.refl _).alloc _))).new4 (w.heap.size + 1 + 1) (by simp) false false false false none none none none 0 0 0 0 0 0 0 0 44 (IsI 0 0) (IsI 0 0) (IsI 0 0) (IsI 0 0) (IsI.gstb _ _) (IsI.nil _ _) (IsI.gstb _ _) (IsI.nil _ _) (IsI.gstb _ _) (IsI.nil _ _) (IsI.gstb _ _) (IsI.nil _ _))⟩
  clear h1x h1y h1z h1t h2x h2y h2z h2t
  go_enter Tryz.func57, Tryz.ntmps57
  go_upto_region 1 with (fail)
  rw [← hW]
  clear hW
  have hl := hid S.lt; have hw := S.ext.size
  refine rg 16 [some 7, some 8, some 9, some 10, some 11, some 12, some 13, some 14, some 15, some 16, some 17, some 18, some 19, some 20, some 21, some 6] [IsV (.pointer (some ⟨w.heap.size, 0, none⟩)), IsQ (IsI k p.num) (IsI k ((p.den : Int))), IsV (.pointer (some ⟨w.heap.size + 1, 0, none⟩)), IsQ (IsI k r.num) (IsI k ((r.den : Int))), IsL k [r], IsJ (IsI k ((leastR p [r]).num)) (IsI k (((leastR p [r]).den : Int))) (IsI k ((greatR p [r]).num)) (IsI k (((greatR p [r]).den : Int))), IsQ (IsI k ((greatR p [r]).num)) (IsI k (((greatR p [r]).den : Int))), IsV (.pointer (some ⟨w.heap.size, 4, none⟩)), IsQ (IsI k q.num) (IsI k ((q.den : Int))), IsV (.pointer (some ⟨w.heap.size + 1, 4, none⟩)), IsQ (IsI k u.num) (IsI k ((u.den : Int))), IsL k [u], IsJ (IsI k ((leastR q [u]).num)) (IsI k (((leastR q [u]).den : Int))) (IsI k ((greatR q [u]).num)) (IsI k (((greatR q [u]).den : Int))), IsQ (IsI k ((leastR q [u]).num)) (IsI k (((leastR q [u]).den : Int))), IsJ (IsI k ((greatR p [r]).num)) (IsI k (((greatR p [r]).den : Int))) (IsI k ((leastR q [u]).num)) (IsI k (((leastR q [u]).den : Int))), IsBo W 4] [15] 1 ?_ ?_ (hst := by repeat' (first | exact trivial | exact IsL.stb _ _ | exact IsV.stb _ | exact IsI.stb _ _ | exact IsBo.stb _ _ | apply IsJ.stb | apply IsQ.stb | apply And.intro))
  · refine Rc (fa (fa_Iv0 (w.heap.size) 0) (Od.lit 2)) ?_
    refine Rc (ldQ S 11 10 (w.heap.size) 0 (Od.lc 0 7) ld_Rat rfl rfl) ?_
    refine Rc (fa (fa_Iv0 (w.heap.size + 1) 0) (Od.lit 3)) ?_
    refine Rc (ldQ S 7 6 (w.heap.size + 1) 0 (Od.lc 2 9) ld_Rat rfl rfl) ?_
    refine Rc (bS1 (K := k) (Od.loc 3 10) (by first | decide | omega)) ?_
    refine Rc (cl2 (en Tryz.func109) (Od.lc (Φ := IsQ (IsI k p.num) (IsI k ((p.den : Int)))) 1 8) (Od.lc (Φ := IsL k [r]) 4 11) (fun x0 x1 w' hE d0 d1 => qends_f d0 d1 (by have := HK.out; omega) (by simp))) ?_
    refine Rc (fdH (Od.loc 5 12)) ?_
    refine Rc (fa (fa_Iv1 (w.heap.size) 0) (Od.lit 2)) ?_
    refine Rc (ldQ S 9 8 (w.heap.size) 2 (Od.lc 7 14) ld_Rat rfl rfl) ?_
    refine Rc (fa (fa_Iv1 (w.heap.size + 1) 0) (Od.lit 3)) ?_
    refine Rc (ldQ S 5 4 (w.heap.size + 1) 2 (Od.lc 9 16) ld_Rat rfl rfl) ?_
    refine Rc (bS1 (K := k) (Od.loc 10 17) (by first | decide | omega)) ?_
    refine Rc (cl2 (en Tryz.func109) (Od.lc (Φ := IsQ (IsI k q.num) (IsI k ((q.den : Int)))) 8 15) (Od.lc (Φ := IsL k [u]) 11 18) (fun x0 x1 w' hE d0 d1 => qends_f d0 d1 (by have := HK.out; omega) (by simp))) ?_
    refine Rc (fdL (Od.loc 12 19)) ?_
    refine Rc (bj (Od.loc 6 13) (Od.loc 13 20) bd_Iv) ?_
    refine Rc (al al_Iv) ?_
    exact RgAll.nil
  intro v W1 e1 hΦ _
  replace S := S.mono e1
  have h21 := hΦ 14 (by decide)
  obtain ⟨g6, v15, q2, b1, _⟩ := (hΦ 15 (by decide) : IsBo W 4 (v 15) W1)
  replace S := S.addN 4 (ApartO.old hl.out q2) (Nat.le_trans hw q2) b1
  simp only [newF, List.cons_append, List.nil_append] at S
  simp only [layL, Act.put, List.setIfInBounds_toArray, List.set_cons_zero, List.set_cons_succ, Nat.reduceAdd]
  rw [v15]
  clear b1 hl hw v15 hΦ e1
  refine stA 16 (h := fun KK hKK => stJ S 3 2 1 0 (g6) 0 h21 (IsI.gstb _ _) (IsI.gstb _ _) (IsI.gstb _ _) (IsI.gstb _ _) st_Iv (fun W2 S2 G2 => hKK _ _ ?_) rfl rfl rfl rfl)
  replace S := S2; clear S2 G2 hKK KK h21
  simp only [List.set_cons_zero, List.set_cons_succ] at S
  refine wpAny_done (by kernel_rfl) ?_ _
  go_upto_region 2 with (fail)
  refine rgs 6 [some 22, some 23, some 24, some 25, some 26, some 27] [IsV (.pointer (some ⟨g6, 0, none⟩)), IsQ (IsI k ((greatR p [r]).num)) (IsI k (((greatR p [r]).den : Int))), IsV (.pointer (some ⟨g6, 4, none⟩)), IsQ (IsI k ((leastR q [u]).num)) (IsI k (((leastR q [u]).den : Int))), IsV (.int .i64 c1), IsV (.bool false)] [] ?_ ?_
  · refine Rc (fa (fa_Iv0 (g6) 0) (Od.lit 6)) ?_
    refine Rc (ldQ S 3 2 (g6) 0 (Od.lc 0 22) ld_Rat rfl rfl) ?_
    refine Rc (fa (fa_Iv1 (g6) 0) (Od.lit 6)) ?_
    refine Rc (ldQ S 1 0 (g6) 2 (Od.lc 2 24) ld_Rat rfl rfl) ?_
    refine Rc (cl2 (en Tryz.func21) (Od.lc (Φ := IsQ (IsI k ((greatR p [r]).num)) (IsI k (((greatR p [r]).den : Int)))) 1 23) (Od.lc (Φ := IsQ (IsI k ((leastR q [u]).num)) (IsI k (((leastR q [u]).den : Int)))) 3 25) (fun x0 x1 w' hE d0 d1 => Calls.mono (qCmp_f d0 d1 (by have := HK.out; omega) (by have := HK.out; omega)) fun _ _ h => h.int H1.out)) ?_
    refine Rc (bn (r := .bool false) (Od.loc 4 26) Od.con (hr := fun w => by have hx9 := H2.out; go_simp)) ?_
    exact RgAll.nil
  intro v W3 e1 hΦ _
  replace S := S.mono e1
  have v5 : v 5 = .bool false := hΦ 5 (by decide)
  simp only [layL, Act.put, List.setIfInBounds_toArray, List.set_cons_zero, List.set_cons_succ, Nat.reduceAdd]
  rw [v5]
  clear v5 hΦ e1
  refine wpList_nil ?_
  go_upto_region 4 with (fail)
  refine rgs 1 [some 29] [IsJ (IsI k ((greatR p [r]).num)) (IsI k (((greatR p [r]).den : Int))) (IsI k ((leastR q [u]).num)) (IsI k (((leastR q [u]).den : Int)))] [] ?_ ?_
  · refine Rc (ldJ S 3 2 1 0 (g6) 0 (Od.lit 6) ld_Iv rfl rfl rfl rfl) ?_
    exact RgAll.nil
  intro v W4 e1 hΦ _
  replace S := S.mono e1
  have h29 := hΦ 0 (by decide)
  simp only [layL, Act.put, List.setIfInBounds_toArray, List.set_cons_zero, List.set_cons_succ]
  clear hΦ e1
  try simp only [List.drop_succ_cons, List.drop_zero]
  (with_reducible refine stL ?_ (by rfl)); intro KK hKK; refine stJ S 7 6 5 4 (w.heap.size + 1 + 1) 0 h29 (IsI.gstb _ _) (IsI.gstb _ _) (IsI.gstb _ _) (IsI.gstb _ _) st_Iv (fun W5 S2 G2 => hKK _ _ ?_) rfl rfl rfl rfl
  replace S := S2; clear S2 G2 hKK KK h29
  simp only [List.set_cons_zero, List.set_cons_succ] at S
  refine wpList_step fun K hK => ?_; go_simp; refine hK _ _ ?_; clear hK K
  refine wpList_nil ?_
  go_wp2_with fail
  obtain ⟨s90x, a90x, n90x, c90x, b90x, h90x⟩ := S.at 7 (w.heap.size + 1 + 1) 0 (IsI k ((greatR p [r]).num)) rfl; have L90xa : World.cell? W5 ⟨w.heap.size + 1 + 1, 0, none⟩ = some (.bool s90x) := b90x.c0; have L90xb : World.cell? W5 ⟨w.heap.size + 1 + 1, 1, none⟩ = some (.slice a90x n90x c90x) := b90x.c1
  obtain ⟨s90y, a90y, n90y, c90y, b90y, h90y⟩ := S.at 6 (w.heap.size + 1 + 1) 1 (IsI k (((greatR p [r]).den : Int))) rfl; have L90ya : World.cell? W5 ⟨w.heap.size + 1 + 1, 2, none⟩ = some (.bool s90y) := b90y.c0; have L90yb : World.cell? W5 ⟨w.heap.size + 1 + 1, 3, none⟩ = some (.slice a90y n90y c90y) := b90y.c1
  obtain ⟨s90z, a90z, n90z, c90z, b90z, h90z⟩ := S.at 5 (w.heap.size + 1 + 1) 2 (IsI k ((leastR q [u]).num)) rfl; have L90za : World.cell? W5 ⟨w.heap.size + 1 + 1, 4, none⟩ = some (.bool s90z) := b90z.c0; have L90zb : World.cell? W5 ⟨w.heap.size + 1 + 1, 5, none⟩ = some (.slice a90z n90z c90z) := b90z.c1
  obtain ⟨s90t, a90t, n90t, c90t, b90t, h90t⟩ := S.at 4 (w.heap.size + 1 + 1) 3 (IsI k (((leastR q [u]).den : Int))) rfl; have L90ta : World.cell? W5 ⟨w.heap.size + 1 + 1, 6, none⟩ = some (.bool s90t) := b90t.c0; have L90tb : World.cell? W5 ⟨w.heap.size + 1 + 1, 7, none⟩ = some (.slice a90t n90t c90t) := b90t.c1
  exact bodyPost_ret (v := .tuple #[.agg #[.bool s90x, .slice a90x n90x c90x, .bool s90y, .slice a90y n90y c90y, .bool s90z, .slice a90z n90z c90z, .bool s90t, .slice a90t n90t c90t], .bool true]) (by simp [results, Tryz.results57, go_sem, L90xa, L90xb, L90ya, L90yb, L90za, L90zb, L90ta, L90tb]) rfl (⟨_, rfl, S.ext, ⟨_, _, rfl, ⟨_, _, _, _, _, _, _, _, _, _, _, _, _, _, _, _, rfl, h90x, h90y, h90z, h90t⟩, rfl⟩⟩)
end Go.Proofs.YtcgdkfadcglekaaGreatDoor
