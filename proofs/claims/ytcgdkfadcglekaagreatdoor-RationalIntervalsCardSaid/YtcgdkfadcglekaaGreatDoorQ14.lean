/-
  Intervals of package rational: within one another, the same, common part. (Printed by wip/gen/rat13.py.)
  A number of an interval, as the law RationalIntervals takes it: inner. (Printed by wip/gen/rat14.py.)
-/
import Derived.Test.YtcgdkfadcglekaaGreatDoorQ12
namespace Go.Proofs.YtcgdkfadcglekaaGreatDoor
open Go Go.RowKit

theorem cmpQ_cases (p q : Rat) : (p < q ∧ cmpQ p q = -1) ∨ (p = q ∧ cmpQ p q = 0) ∨ (q < p ∧ cmpQ p q = 1) := by
  rcases Int.lt_trichotomy (p.num * (q.den : Int)) (q.num * (p.den : Int)) with h | h | h
  · exact .inl ⟨(rat_lt p q).2 h, cmpI_lt h⟩
  · exact .inr (.inl ⟨(rat_eq p q).2 h, cmpI_eq h⟩)
  · exact .inr (.inr ⟨(rat_lt q p).2 h, cmpI_gt h⟩)
theorem rqSame_b {k1 k2 : Nat} {p q : Rat} {x y : Value} {w : World} {b : Bool} (hx : IsRat k1 p x w) (hy : IsRat k2 q y w) (l1 : k1 ≤ 1048576) (h : (p = q ∧ b = true) ∨ (p ≠ q ∧ b = false)) : Calls Tryz.prog 18 #[x, y] w (Ret w (IsV (.bool b))) := by
  rcases h with ⟨h, rfl⟩ | ⟨h, rfl⟩
  · exact rqSame_eq hx hy l1 h
  · exact rqSame_ne hx hy l1 h
theorem rqSame_d {k1 k2 : Nat} {p q : Rat} {x y : Value} {w : World} (hx : IsRat k1 p x w) (hy : IsRat k2 q y w) (l1 : k1 ≤ 1048576) : Calls Tryz.prog 18 #[x, y] w (Ret w (IsV (.bool (decide (p = q))))) := by
  by_cases h : p = q
  · exact rqSame_b hx hy l1 (.inl ⟨h, by simp [h]⟩)
  · exact rqSame_b hx hy l1 (.inr ⟨h, by simp [h]⟩)

set_option maxRecDepth 100000 in
set_option maxHeartbeats 4000000 in
theorem rqSameI_f {k1 k2 : Nat} {p q r u : Rat} {x y : Value} {w : World} (hx : IsIv k1 p q x w) (hy : IsIv k2 r u y w) (l : k1 ≤ 10000 ∧ k2 ≤ 10000) : Calls Tryz.prog 60 #[x, y] w (Ret w (IsV (.bool (decide (p = r) && decide (q = u))))) := by
  have HK := hid l
  clear l
  obtain ⟨b1, hb1⟩ : ∃ x, decide (p = r) = x := ⟨_, rfl⟩
  have H1 := hid hb1
  obtain ⟨b2, hb2⟩ : ∃ x, decide (q = u) = x := ⟨_, rfl⟩
  have H2 := hid hb2
  obtain ⟨b3, hb3⟩ : ∃ x, (b1 && b2) = x := ⟨_, rfl⟩
  have H3 := hid hb3
  have H4 := hid (show IsV (.bool (decide (p = r) && decide (q = u))) (.bool b3) w from by rw [hb1, hb2, hb3]; rfl)
  clear hb1 hb2 hb3
  obtain ⟨s1x, a1x, n1x, c1x, s1y, a1y, n1y, c1y, s1z, a1z, n1z, c1z, s1t, a1t, n1t, c1t, rfl, h1x, h1y, h1z, h1t⟩ := hx
  obtain ⟨s2x, a2x, n2x, c2x, s2y, a2y, n2y, c2y, s2z, a2z, n2z, c2z, s2t, a2t, n2t, c2t, rfl, h2x, h2y, h2z, h2t⟩ := hy
  obtain ⟨W, hW, S⟩ : ∃ W, W = (w.alloc (.cells #[.bool s1x, .slice a1x n1x c1x, .bool s1y, .slice a1y n1y c1y, .bool s1z, .slice a1z n1z c1z, .bool s1t, .slice a1t n1t c1t] 44)).alloc (.cells #[.bool s2x, .slice a2x n2x c2x, .bool s2y, .slice a2y n2y c2y, .bool s2z, .slice a2z n2z c2z, .bool s2t, .slice a2t n2t c2t] 44) ∧ Sto w W [((w.heap.size + 1, 3), IsI k2 ((u.den : Int))), ((w.heap.size + 1, 2), IsI k2 u.num), ((w.heap.size + 1, 1), IsI k2 ((r.den : Int))), ((w.heap.size + 1, 0), IsI k2 r.num), ((w.heap.size, 3), IsI k1 ((q.den : Int))), ((w.heap.size, 2), IsI k1 q.num), ((w.heap.size, 1), IsI k1 ((p.den : Int))), ((w.heap.size, 0), IsI k1 p.num)] := ⟨_, rfl, (((Sto.start w).new4 (w.heap.size) (by simp) s1x s1y s1z s1t a1x a1y a1z a1t n1x c1x n1y c1y n1z c1z n1t c1t 44 (IsI k1 p.num) (IsI k1 ((p.den : Int))) (IsI k1 q.num) (IsI k1 ((q.den : Int))) (IsI.gstb _ _) (h1x) (IsI.gstb _ _) (h1y) (IsI.gstb _ _) (h1z) (IsI.gstb _ _) (h1t)).new4 (w.heap.size + 1) (by simp) s2x s2y s2z s2t a2x a2y a2z a2t n2x c2x n2y c2y n2z c2z n2t c2t 44 (IsI k2 r.num) (IsI k2 ((r.den : Int))) (IsI k2 u.num) (IsI k2 ((u.den : Int))) (IsI.gstb _ _) (h2x.ext ((Ext.refl _).alloc _)) (IsI.gstb _ _) (h2y.ext ((Ext.refl _).alloc _)) (IsI.gstb _ _) (h2z.ext ((Ext.refl _).alloc _)) (IsI.gstb _ _) (h2t.ext ((Ext.refl _).alloc _)))⟩
  clear h1x h1y h1z h1t h2x h2y h2z h2t
  go_enter Tryz.func60, Tryz.ntmps60
  go_upto_region 1 with (fail)
  rw [← hW]
  clear hW
  refine rgs 13 [some 5, some 6, some 7, some 8, some 9, some 10, some 11, some 12, some 13, some 14, some 15, some 16, some 4] [IsV (.pointer (some ⟨w.heap.size, 0, none⟩)), IsQ (IsI k1 p.num) (IsI k1 ((p.den : Int))), IsV (.pointer (some ⟨w.heap.size + 1, 0, none⟩)), IsQ (IsI k2 r.num) (IsI k2 ((r.den : Int))), IsV (.bool b1), IsV (.bool b1), IsIf (b1) (IsV (.pointer (some ⟨w.heap.size, 4, none⟩))), IsIf (b1) (IsQ (IsI k1 q.num) (IsI k1 ((q.den : Int)))), IsIf (b1) (IsV (.pointer (some ⟨w.heap.size + 1, 4, none⟩))), IsIf (b1) (IsQ (IsI k2 u.num) (IsI k2 ((u.den : Int)))), IsIf (b1) (IsV (.bool b2)), IsV (.bool b3), IsV (.bool b3)] [] ?_ ?_ (hst := by repeat' (first | exact trivial | apply IsIf.stb | exact IsV.stb _ | exact IsI.stb _ _ | apply IsJ.stb | apply IsQ.stb | apply And.intro))
  · refine Rc (fa (fa_Iv0 (w.heap.size) 0) (Od.lit 2)) ?_
    refine Rc (ldQ S 7 6 (w.heap.size) 0 (Od.lc 0 5) ld_Rat rfl rfl) ?_
    refine Rc (fa (fa_Iv0 (w.heap.size + 1) 0) (Od.lit 3)) ?_
    refine Rc (ldQ S 3 2 (w.heap.size + 1) 0 (Od.lc 2 7) ld_Rat rfl rfl) ?_
    refine Rc (cl2 (en Tryz.func18) (Od.lc (Φ := IsQ (IsI k1 p.num) (IsI k1 ((p.den : Int)))) 1 6) (Od.lc (Φ := IsQ (IsI k2 r.num) (IsI k2 ((r.den : Int)))) 3 8) (fun x0 x1 w' hE d0 d1 => Calls.mono (rqSame_d d0 d1 (by have := HK.out; omega)) fun _ _ h => RetB h H1.out)) ?_
    refine Rc (mv (Od.lc 4 9)) ?_
    refine RcB 5 10 b1 true (fun hb => by subst hb; exact fa (fa_Iv1 (w.heap.size) 0) (Od.lit 2)) ?_
    refine RcB 5 10 b1 true (fun hb => by subst hb; exact ldQ S 5 4 (w.heap.size) 2 (Od.lc 6 11) ld_Rat rfl rfl) ?_
    refine RcB 5 10 b1 true (fun hb => by subst hb; exact fa (fa_Iv1 (w.heap.size + 1) 0) (Od.lit 3)) ?_
    refine RcB 5 10 b1 true (fun hb => by subst hb; exact ldQ S 1 0 (w.heap.size + 1) 2 (Od.lc 8 13) ld_Rat rfl rfl) ?_
    refine RcB 5 10 b1 true (fun hb => by subst hb; exact cl2 (en Tryz.func18) (Od.lc (Φ := IsQ (IsI k1 q.num) (IsI k1 ((q.den : Int)))) 7 12) (Od.lc (Φ := IsQ (IsI k2 u.num) (IsI k2 ((u.den : Int)))) 9 14) (fun x0 x1 w' hE d0 d1 => Calls.mono (rqSame_d d0 d1 (by have := HK.out; omega)) fun _ _ h => RetB h H2.out)) ?_
    refine Rc (pkA (b2 := b2) (Od.loc 5 10) (fun hb => by subst hb; exact Od.lc 10 15) (H3.out)) ?_
    refine Rc (mv (Od.lc 11 16)) ?_
    exact RgAll.nil
  intro v W1 e1 hΦ _
  replace S := S.mono e1
  have v12 : v 12 = .bool b3 := hΦ 12 (by decide)
  simp only [layL, Act.put, List.setIfInBounds_toArray, List.set_cons_zero, List.set_cons_succ, Nat.reduceAdd]
  rw [v12]
  clear v12 hΦ e1
  refine wpList_nil ?_
  go_wp2_with fail
  exact bodyPost_ret (v := .bool b3) (by simp [results, Tryz.results60, go_sem]) rfl (⟨_, rfl, S.ext, H4.out⟩)

end Go.Proofs.YtcgdkfadcglekaaGreatDoor
namespace Go.Proofs.YtcgdkfadcglekaaGreatDoor
open Go Go.RowKit

theorem cmpQ_leD (p q : Rat) : decide (cmpQ p q ≤ 0) = decide (p ≤ q) := by
  rcases cmpQ_cases p q with ⟨h, e⟩ | ⟨h, e⟩ | ⟨h, e⟩ <;> rw [e]
  · rw [decide_eq_true (Rat.le_of_lt h)]; rfl
  · rw [h, decide_eq_true (Rat.le_refl)]; rfl
  · rw [decide_eq_false (Rat.not_le.2 h)]; rfl
theorem hasQ_le (p q r : Rat) : hasQ p q r = (decide (p ≤ r) && decide (r ≤ q)) := by unfold hasQ; rw [cmpQ_leD, cmpQ_leD]
theorem least2 (p r : Rat) : leastR p [r] = if r < p then r else p := rfl
theorem great2 (p r : Rat) : greatR p [r] = if p < r then r else p := rfl
theorem span_le (p r : Rat) : leastR p [r] ≤ greatR p [r] := by rw [least2, great2]; grind
theorem leastR_le : ∀ (l : List Rat) (a y : Rat), y ∈ a :: l → leastR a l ≤ y := by
  intro l
  induction l with
  | nil => intro a y h; simp only [List.mem_singleton] at h; subst h; exact Rat.le_refl
  | cons b l ih =>
    intro a y h
    show leastR (if b < a then b else a) l ≤ y
    rcases List.mem_cons.1 h with rfl | h
    · refine Rat.le_trans (ih _ _ (List.mem_cons_self ..)) ?_; grind
    · rcases List.mem_cons.1 h with rfl | h
      · refine Rat.le_trans (ih _ _ (List.mem_cons_self ..)) ?_; grind
      · exact ih _ _ (List.mem_cons_of_mem _ h)
theorem le_greatR : ∀ (l : List Rat) (a y : Rat), y ∈ a :: l → y ≤ greatR a l := by
  intro l
  induction l with
  | nil => intro a y h; simp only [List.mem_singleton] at h; subst h; exact Rat.le_refl
  | cons b l ih =>
    intro a y h
    show y ≤ greatR (if a < b then b else a) l
    rcases List.mem_cons.1 h with rfl | h
    · refine Rat.le_trans ?_ (ih _ _ (List.mem_cons_self ..)); grind
    · rcases List.mem_cons.1 h with rfl | h
      · refine Rat.le_trans ?_ (ih _ _ (List.mem_cons_self ..)); grind
      · exact ih _ _ (List.mem_cons_of_mem _ h)
theorem mul_lo {p q x t m : Rat} (h1 : p ≤ x) (h2 : x ≤ q) (m1 : m ≤ p * t) (m2 : m ≤ q * t) : m ≤ x * t := by
  rcases Rat.le_total (a := 0) (b := t) with h | h
  · exact Rat.le_trans m1 (Rat.mul_le_mul_of_nonneg_right h1 h)
  · have := Rat.mul_le_mul_of_nonneg_right (c := -t) h2 (by grind)
    grind
theorem mul_hi {p q x t m : Rat} (h1 : p ≤ x) (h2 : x ≤ q) (m1 : p * t ≤ m) (m2 : q * t ≤ m) : x * t ≤ m := by
  rcases Rat.le_total (a := 0) (b := t) with h | h
  · exact Rat.le_trans (Rat.mul_le_mul_of_nonneg_right h2 h) m2
  · have := Rat.mul_le_mul_of_nonneg_right (c := -t) h1 (by grind)
    grind
theorem ninth (n : Int) (h0 : 0 ≤ n) (h8 : n ≤ 8) : 0 ≤ Rat.divInt n 8 ∧ Rat.divInt n 8 ≤ 1 := by
  obtain rfl | rfl | rfl | rfl | rfl | rfl | rfl | rfl | rfl : n = 0 ∨ n = 1 ∨ n = 2 ∨ n = 3 ∨ n = 4 ∨ n = 5 ∨ n = 6 ∨ n = 7 ∨ n = 8 := by omega
  all_goals exact ⟨by decide +kernel, by decide +kernel⟩
/-- A number of an interval. -/
def innerQ (p q : Rat) (n : Int) : Rat := p + Rat.divInt n 8 * (q - p)
theorem innerQ_in {p q : Rat} (h : p ≤ q) {n : Int} (h0 : 0 ≤ n) (h8 : n ≤ 8) : p ≤ innerQ p q n ∧ innerQ p q n ≤ q := by
  obtain ⟨c0, c1⟩ := ninth n h0 h8
  unfold innerQ
  have hd : 0 ≤ q - p := by grind
  have k0 := Rat.mul_nonneg c0 hd
  have k1 := Rat.mul_le_mul_of_nonneg_right c1 hd
  grind
theorem scale_eq (p q r : Rat) : leastR (p * r) [p * r, q * r, q * r] = leastR (p * r) [q * r] ∧ greatR (p * r) [p * r, q * r, q * r] = greatR (p * r) [q * r] := by
  generalize p * r = a; generalize q * r = b
  constructor
  · show (if b < (if b < (if a < a then a else a) then b else _) then b else _) = (if b < a then b else a)
    grind
  · show (if (if (if a < a then a else a) < b then b else _) < b then b else _) = (if a < b then b else a)
    grind
theorem iv_facts {al ah bl bh p q : Rat} (h1 : al ≤ p) (h2 : p ≤ ah) (h3 : bl ≤ q) (h4 : q ≤ bh) :
    hasQ (al + bl) (ah + bh) (p + q) = true ∧ hasQ (al - bh) (ah - bl) (p - q) = true ∧
      hasQ (leastR (al * bl) [al * bh, ah * bl, ah * bh]) (greatR (al * bl) [al * bh, ah * bl, ah * bh]) (p * q) = true ∧ hasQ (leastR (al * q) [ah * q]) (greatR (al * q) [ah * q]) (p * q) = true ∧ hasQ al ah p = true := by
  simp only [hasQ_le, Bool.and_eq_true, decide_eq_true_eq]
  refine ⟨⟨by grind, by grind⟩, ⟨by grind, by grind⟩, ⟨?_, ?_⟩, ⟨?_, ?_⟩, h1, h2⟩
  · refine mul_lo h1 h2 ?_ ?_
    · rw [Rat.mul_comm al q]
      exact mul_lo h3 h4 (by rw [Rat.mul_comm bl al]; exact leastR_le _ _ _ (by simp)) (by rw [Rat.mul_comm bh al]; exact leastR_le _ _ _ (by simp))
    · rw [Rat.mul_comm ah q]
      exact mul_lo h3 h4 (by rw [Rat.mul_comm bl ah]; exact leastR_le _ _ _ (by simp)) (by rw [Rat.mul_comm bh ah]; exact leastR_le _ _ _ (by simp))
  · refine mul_hi h1 h2 ?_ ?_
    · rw [Rat.mul_comm al q]
      exact mul_hi h3 h4 (by rw [Rat.mul_comm bl al]; exact le_greatR _ _ _ (by simp)) (by rw [Rat.mul_comm bh al]; exact le_greatR _ _ _ (by simp))
    · rw [Rat.mul_comm ah q]
      exact mul_hi h3 h4 (by rw [Rat.mul_comm bl ah]; exact le_greatR _ _ _ (by simp)) (by rw [Rat.mul_comm bh ah]; exact le_greatR _ _ _ (by simp))
  · exact mul_lo h1 h2 (leastR_le _ _ _ (by simp)) (leastR_le _ _ _ (by simp))
  · exact mul_hi h1 h2 (le_greatR _ _ _ (by simp)) (le_greatR _ _ _ (by simp))

set_option maxRecDepth 100000 in
set_option maxHeartbeats 4000000 in
theorem inner_f {k : Nat} {p q : Rat} {tt tn : Int} {x : Value} {w : World} (hx : IsIv k p q x w) (l : k ≤ 10000) (h0 : 0 ≤ tt) (h1 : tt % 9 = tn) : Calls Tryz.prog 61 #[x, .int .u8 tt] w (Ret w (IsRat (k + (2 + (k + k + 1)) + 1) (innerQ p q tn))) := by
  unfold innerQ
  have HK := hid l
  have hm : tt.tmod 9 = tn := by rw [Int.tmod_eq_emod_of_nonneg h0]; exact h1
  have HM := hid (show tt % 9 = tn ∧ tt.tmod 9 = tn from ⟨h1, hm⟩)
  have HT := hid (show tn % 256 = tn ∧ IntKind.i64.wrap tn = tn from ⟨by omega, by simp only [IntKind.wrap_i64]; omega⟩)
  have HW := hid (show -9223372036854775808 ≤ tn ∧ tn ≤ 9223372036854775807 by omega)
  clear l h0 h1 hm
  obtain ⟨s1x, a1x, n1x, c1x, s1y, a1y, n1y, c1y, s1z, a1z, n1z, c1z, s1t, a1t, n1t, c1t, rfl, h1x, h1y, h1z, h1t⟩ := hx
  obtain ⟨W, hW, S⟩ : ∃ W, W = (w.alloc (.cells #[.bool s1x, .slice a1x n1x c1x, .bool s1y, .slice a1y n1y c1y, .bool s1z, .slice a1z n1z c1z, .bool s1t, .slice a1t n1t c1t] 44)).alloc (.cells #[.bool false, .slice none 0 0, .bool false, .slice none 0 0] 31) ∧ Sto w W [((w.heap.size + 1, 1), IsI 0 0), ((w.heap.size + 1, 0), IsI 0 0), ((w.heap.size, 3), IsI k ((q.den : Int))), ((w.heap.size, 2), IsI k q.num), ((w.heap.size, 1), IsI k ((p.den : Int))), ((w.heap.size, 0), IsI k p.num)] := ⟨_, rfl, (((Sto.start w).new4 (w.heap.size) (by simp) s1x s1y s1z s1t a1x a1y a1z a1t n1x c1x n1y c1y n1z c1z n1t c1t 44 (IsI k p.num) (IsI k ((p.den : Int))) (IsI k q.num) (IsI k ((q.den : Int))) (IsI.gstb _ _) (h1x) (IsI.gstb _ _) (h1y) (IsI.gstb _ _) (h1z) (IsI.gstb _ _) (h1t)).new2 (w.heap.size + 1) (by simp) false false none none 0 0 0 0 31 (IsI 0 0) (IsI 0 0) (IsI.gstb _ _) (IsI.nil _ _) (IsI.gstb _ _) (IsI.nil _ _))⟩
  clear h1x h1y h1z h1t
  go_enter Tryz.func61, Tryz.ntmps61
  go_upto_region 1 with (fail)
  rw [← hW]
  clear hW
  refine rg 13 [some 5, some 6, some 7, some 8, some 9, some 10, some 11, some 12, some 13, some 14, some 15, some 16, some 17] [IsV (.pointer (some ⟨w.heap.size, 0, none⟩)), IsQ (IsI k p.num) (IsI k ((p.den : Int))), IsV (.int .u8 tt), IsV (.int .u8 tn), IsV (.int .i64 tn), IsQ (IsI 2 ((Rat.divInt tn 8).num)) (IsI 2 (((Rat.divInt tn 8).den : Int))), IsV (.pointer (some ⟨w.heap.size, 4, none⟩)), IsQ (IsI k q.num) (IsI k ((q.den : Int))), IsV (.pointer (some ⟨w.heap.size, 0, none⟩)), IsQ (IsI k p.num) (IsI k ((p.den : Int))), IsQ (IsI (k + k + 1) ((q - p).num)) (IsI (k + k + 1) (((q - p).den : Int))), IsQ (IsI (2 + (k + k + 1)) ((Rat.divInt tn 8 * (q - p)).num)) (IsI (2 + (k + k + 1)) (((Rat.divInt tn 8 * (q - p)).den : Int))), IsQ (IsI (k + (2 + (k + k + 1)) + 1) ((p + Rat.divInt tn 8 * (q - p)).num)) (IsI (k + (2 + (k + k + 1)) + 1) (((p + Rat.divInt tn 8 * (q - p)).den : Int)))] [] 1 ?_ ?_
  · refine Rc (fa (fa_Iv0 (w.heap.size) 0) (Od.lit 2)) ?_
    refine Rc (ldQ S 5 4 (w.heap.size) 0 (Od.lc 0 5) ld_Rat rfl rfl) ?_
    refine Rc (mv (Od.lit 1)) ?_
    refine Rc (bn (r := .int .u8 tn) (Od.loc 2 7) Od.con (hr := fun w => by have hx9 := HM.out.1; have hx8 := HM.out.2; go_simp)) ?_
    refine RgAll.cons (by { (with_reducible refine RgL.mk (by rfl) ?_); intro v a w' hE hd hf; have d0 : v 3 = .int .u8 tn := hd 3 (by kernel_rfl); have ev0 := hf.val 3 8 _ d0 (by kernel_rfl) (by kernel_rfl) (by kernel_rfl); clear d0; have hx9 := HT.out.1; have hx8 := HT.out.2; clear hd hf; intro K hK; go_simp; exact hK.out _ _ (Ext.refl _) rfl (FreshIf.no rfl) }) ?_
    refine Rc (cl2 (en Tryz.func27) (Od.lc (Φ := IsV (.int .i64 tn)) 4 9) Od.con (fun x0 x1 w' hE d0 d1 => by { obtain rfl : x0 = .int .i64 tn := d0; obtain rfl : x1 = .int .i64 8 := d1; exact rqOf_f w' tn 8 HW.out (by decide) (by decide) })) ?_
    refine Rc (fa (fa_Iv1 (w.heap.size) 0) (Od.lit 2)) ?_
    refine Rc (ldQ S 3 2 (w.heap.size) 2 (Od.lc 6 11) ld_Rat rfl rfl) ?_
    refine Rc (fa (fa_Iv0 (w.heap.size) 0) (Od.lit 2)) ?_
    refine Rc (ldQ S 5 4 (w.heap.size) 0 (Od.lc 8 13) ld_Rat rfl rfl) ?_
    refine Rc (cl2 (en Tryz.func54) (Od.lc (Φ := IsQ (IsI k q.num) (IsI k ((q.den : Int)))) 7 12) (Od.lc (Φ := IsQ (IsI k p.num) (IsI k ((p.den : Int)))) 9 14) (fun x0 x1 w' hE d0 d1 => rqSub_f d0 d1 (by have := HK.out; omega) (by have := HK.out; omega))) ?_
    refine Rc (cl2 (en Tryz.func26) (Od.lc (Φ := IsQ (IsI 2 ((Rat.divInt tn 8).num)) (IsI 2 (((Rat.divInt tn 8).den : Int)))) 5 10) (Od.lc (Φ := IsQ (IsI (k + k + 1) ((q - p).num)) (IsI (k + k + 1) (((q - p).den : Int)))) 10 15) (fun x0 x1 w' hE d0 d1 => rqMul_f d0 d1 (by decide) (by have := HK.out; omega))) ?_
    refine Rc (cl2 (en Tryz.func53) (Od.lc (Φ := IsQ (IsI k p.num) (IsI k ((p.den : Int)))) 1 6) (Od.lc (Φ := IsQ (IsI (2 + (k + k + 1)) ((Rat.divInt tn 8 * (q - p)).num)) (IsI (2 + (k + k + 1)) (((Rat.divInt tn 8 * (q - p)).den : Int)))) 11 16) (fun x0 x1 w' hE d0 d1 => rqAdd_f d0 d1 (by have := HK.out; omega) (by have := HK.out; omega))) ?_
    exact RgAll.nil
  intro v W1 e1 hΦ _
  replace S := S.mono e1
  have h17 := hΦ 12 (by decide)
  simp only [layL, Act.put, List.setIfInBounds_toArray, List.set_cons_zero, List.set_cons_succ, Nat.reduceAdd]
  clear hΦ e1
  refine stA 13 (h := fun KK hKK => stQ S 1 0 (w.heap.size + 1) 0 h17 (IsI.gstb _ _) (IsI.gstb _ _) st_Rat (fun W2 S2 G2 => hKK _ _ ?_) rfl rfl)
  replace S := S2; clear S2 G2 hKK KK h17
  simp only [List.set_cons_zero, List.set_cons_succ] at S
  refine wpAny_done (by kernel_rfl) ?_ _
  go_wp2_with fail
  obtain ⟨s90x, a90x, n90x, c90x, b90x, h90x⟩ := S.at 1 (w.heap.size + 1) 0 (IsI (k + (2 + (k + k + 1)) + 1) ((p + Rat.divInt tn 8 * (q - p)).num)) rfl; have L90xa : World.cell? W2 ⟨w.heap.size + 1, 0, none⟩ = some (.bool s90x) := b90x.c0; have L90xb : World.cell? W2 ⟨w.heap.size + 1, 1, none⟩ = some (.slice a90x n90x c90x) := b90x.c1
  obtain ⟨s90y, a90y, n90y, c90y, b90y, h90y⟩ := S.at 0 (w.heap.size + 1) 1 (IsI (k + (2 + (k + k + 1)) + 1) (((p + Rat.divInt tn 8 * (q - p)).den : Int))) rfl; have L90ya : World.cell? W2 ⟨w.heap.size + 1, 2, none⟩ = some (.bool s90y) := b90y.c0; have L90yb : World.cell? W2 ⟨w.heap.size + 1, 3, none⟩ = some (.slice a90y n90y c90y) := b90y.c1
  exact bodyPost_ret (v := .agg #[.bool s90x, .slice a90x n90x c90x, .bool s90y, .slice a90y n90y c90y]) (by simp [results, Tryz.results61, go_sem, L90xa, L90xb, L90ya, L90yb]) rfl (⟨_, rfl, S.ext, ⟨_, _, _, _, _, _, _, _, rfl, h90x, h90y⟩⟩)
end Go.Proofs.YtcgdkfadcglekaaGreatDoor
