/-
  The statement RationalMeets: for every argument made of descriptions of fractions the law answers true, and the descriptions read behind the call as they read before. The listed package variables hold what the program's text lays (the card ties them).
-/
import Derived.Test.YtcgdkfadcglekaaGreatDoorQe
import Derived.Test.YtcgdkfadcglekaaGreatDoorQ13
import Derived.Test.YtcgdkfadcglekaaGreatDoorReadP
import Derived.Test.YtcgdkfadcglekaaGreatDoorTie
import Derived.Test.YtcgdkfadcglekaaGreatDoorCards
import Derived.SevenTiedAt
namespace Go.Proofs.YtcgdkfadcglekaaGreatDoor
open Go Go.RowKit

theorem ia_P2_0 (g f : Nat) (w : World) : (Instr.indexAt 66 (.pointer (some ⟨g, f, none⟩)) (.int .i64 0)).run Tryz.prog w = .ok (.pointer (some ⟨g, f, none⟩)) w := by go_simp
theorem ia_P2_1 (g f : Nat) (w : World) : (Instr.indexAt 66 (.pointer (some ⟨g, f, none⟩)) (.int .i64 1)).run Tryz.prog w = .ok (.pointer (some ⟨g, f + 4, none⟩)) w := by go_simp
/-- A slice of length 0. -/
def IsS0 : Value → World → Prop := fun x _ => ∃ a c, x = .slice a 0 c
theorem IsS0.stb : Stb IsS0 := fun _ _ _ _ h => h
section
variable {ops : Array Oper} {Q : Exit → Act → World → Prop} {ds : List (Option Tmp)} {a0 : Act} {w0 : World} {L : List (Value → World → Prop)} {boxes : List Nat} {i : Nat} {o : Oper}
theorem ldW {W : World} {B : List Fld} (S : Sto W w0 B) (j g q : Nat) {x : Operand} (hx : Od ops ds a0 w0 L i x (IsV (.pointer (some ⟨g, 2 * q + 1, none⟩)))) (h1 : B[j]? = some ((g, q), IsI 0 0) := by rfl) (ho : o.op = .load 22 x := by rfl) (hi : L.getD i (fun _ _ => True) = IsS0 := by kernel_rfl) (hb : boxes.contains i = false := by kernel_rfl) : Ok Tryz.prog ops Q ds a0 w0 L boxes i o :=
  Ok.of hb fun v a w hE hd hf => by
    have h : a.eval x = _ := hx.out v a w hE hd hf
    obtain ⟨s, a', n, c, b, h'⟩ := (S.mono hE).at j g q _ h1
    obtain ⟨m, ⟨xs, _, hn, _⟩, _⟩ := h'.int
    obtain rfl : n = 0 := by omega
    have hc := b.c1
    exact ⟨.slice a' 0 c, ld_run ho h (by go_simp), by rw [hi]; exact ⟨_, _, rfl⟩⟩
theorem len0 {x : Operand} (hx : Od ops ds a0 w0 L i x IsS0) (ho : o.op = .call { callee := .builtin .len, args := #[x], argTypes := #[22] } := by rfl) (hi : L.getD i (fun _ _ => True) = IsV (.int .i64 0) := by kernel_rfl) (hb : boxes.contains i = false := by kernel_rfl) : Ok Tryz.prog ops Q ds a0 w0 L boxes i o :=
  Ok.of hb fun v a w hE hd hf => by
    obtain ⟨a1, c, h1⟩ := hx.out v a w hE hd hf
    refine ⟨_, ?_, by rw [hi]; exact rfl⟩
    unfold execOp
    rw [ho]
    dsimp only
    unfold resolve
    simp only [List.map_toArray, List.map_cons, List.map_nil, h1]
    go_simp
end
theorem Ret.iv {k : Nat} {p q p' q' : Rat} {w w' : World} {e : Ending} (h : Ret w (IsIv k p q) e w') (h1 : p = p') (h2 : q = q') : Ret w (IsIv k p' q') e w' := h1 ▸ h2 ▸ h
theorem cmpQ_leD (p q : Rat) : decide (cmpQ p q ≤ 0) = decide (p ≤ q) := by
  rcases cmpQ_cases p q with ⟨h, e⟩ | ⟨h, e⟩ | ⟨h, e⟩ <;> rw [e]
  · rw [decide_eq_true (Rat.le_of_lt h)]; rfl
  · rw [h, decide_eq_true (Rat.le_refl)]; rfl
  · rw [decide_eq_false (Rat.not_le.2 h)]; rfl
theorem cmpQ_gtD (p q : Rat) : decide (0 < cmpQ p q) = decide (q < p) := by
  rcases cmpQ_cases p q with ⟨h, e⟩ | ⟨h, e⟩ | ⟨h, e⟩ <;> rw [e]
  · rw [decide_eq_false (Rat.not_lt.2 (Rat.le_of_lt h))]; rfl
  · rw [h, decide_eq_false Rat.lt_irrefl]; rfl
  · rw [decide_eq_true h]; rfl
theorem cmpQ_ltD (p q : Rat) : decide (cmpQ p q < 0) = decide (p < q) := by
  rcases cmpQ_cases p q with ⟨h, e⟩ | ⟨h, e⟩ | ⟨h, e⟩ <;> rw [e]
  · rw [decide_eq_true h]; rfl
  · rw [h, decide_eq_false Rat.lt_irrefl]; rfl
  · rw [decide_eq_false (Rat.not_lt.2 (Rat.le_of_lt h))]; rfl
theorem hasQ_le (p q r : Rat) : hasQ p q r = (decide (p ≤ r) && decide (r ≤ q)) := by unfold hasQ; rw [cmpQ_leD, cmpQ_leD]
theorem least2 (p r : Rat) : leastR p [r] = if r < p then r else p := rfl
theorem great2 (p r : Rat) : greatR p [r] = if p < r then r else p := rfl
theorem span_le (p r : Rat) : leastR p [r] ≤ greatR p [r] := by rw [least2, great2]; grind
theorem meets_no {pl ph ul uh q : Rat} (hp : pl ≤ ph) (hu : ul ≤ uh) (h : decide (0 < cmpQ (greatR pl [ul]) (leastR ph [uh])) = true) :
    (hasQ pl ph q && hasQ ul uh q) = false ∧ (decide (cmpQ ph ul < 0) || decide (cmpQ uh pl < 0)) = true ∧ (hasQ ul uh pl && hasQ ul uh ph) = false := by
  rw [cmpQ_gtD, decide_eq_true_iff, least2, great2] at h
  rw [hasQ_le, hasQ_le, hasQ_le, hasQ_le, cmpQ_ltD, cmpQ_ltD]
  refine ⟨?_, ?_, ?_⟩
  · rw [Bool.eq_false_iff]; intro k; simp only [Bool.and_eq_true, decide_eq_true_eq] at k; grind
  · simp only [Bool.or_eq_true, decide_eq_true_eq]; grind
  · rw [Bool.eq_false_iff]; intro k; simp only [Bool.and_eq_true, decide_eq_true_eq] at k; grind
theorem meets_yes {pl ph ul uh q : Rat} (hp : pl ≤ ph) (hu : ul ≤ uh) (h : decide (0 < cmpQ (greatR pl [ul]) (leastR ph [uh])) = false) :
    (decide (cmpQ ph ul < 0) || decide (cmpQ uh pl < 0)) = false ∧ hasQ (greatR pl [ul]) (leastR ph [uh]) q = (hasQ pl ph q && hasQ ul uh q) ∧
      (decide (greatR pl [ul] = pl) && decide (leastR ph [uh] = ph)) = (hasQ ul uh pl && hasQ ul uh ph) := by
  rw [cmpQ_gtD, decide_eq_false_iff_not, least2, great2] at h
  rw [hasQ_le, hasQ_le, hasQ_le, hasQ_le, hasQ_le, cmpQ_ltD, cmpQ_ltD, least2, great2]
  refine ⟨?_, ?_, ?_⟩
  · rw [Bool.eq_false_iff]; intro k; simp only [Bool.or_eq_true, decide_eq_true_eq] at k; grind
  · rw [Bool.eq_iff_iff]; simp only [Bool.and_eq_true, decide_eq_true_eq]; grind
  · rw [Bool.eq_iff_iff]; simp only [Bool.and_eq_true, decide_eq_true_eq]; grind
set_option maxRecDepth 100000 in
set_option maxHeartbeats 8000000 in
theorem Meets_n (w : World) (s1x s1y s1z s1t s2x s2y s2z s2t s3x s3y : Bool) (a1x a1y a1z a1t a2x a2y a2z a2t a3x a3y : Option Addr) (n1x c1x n1y c1y n1z c1z n1t c1t n2x c2x n2y c2y n2z c2z n2t c2t n3x c3x n3y c3y : Nat) (x1xn x1xd x1zn x1zd x2xn x2xd x2zn x2zd x3n x3d : List Nat) (h1x : Wd w a1x n1x c1x x1xn) (h1y : Wd w a1y n1y c1y x1xd) (h1z : Wd w a1z n1z c1z x1zn) (h1t : Wd w a1t n1t c1t x1zd) (h2x : Wd w a2x n2x c2x x2xn) (h2y : Wd w a2y n2y c2y x2xd) (h2z : Wd w a2z n2z c2z x2zn) (h2t : Wd w a2t n2t c2t x2zd) (h3x : Wd w a3x n3x c3x x3n) (h3y : Wd w a3y n3y c3y x3d) (ht : Tab w) (p0 p1 u0 u1 q pl ph ul uh : Rat) (c1 c2 c3 c4 : Int) (b1 b2 e1 e2 f1 f2 w1 w2 : Bool) (HP0 : Hid (madeQ s1x s1y x1xn x1xd 3 = p0)) (HP1 : Hid (madeQ s1z s1t x1zn x1zd 3 = p1)) (HU0 : Hid (madeQ s2x s2y x2xn x2xd 3 = u0)) (HU1 : Hid (madeQ s2z s2t x2zn x2zd 3 = u1)) (HQ : Hid (madeQ s3x s3y x3n x3d 3 = q)) (HA : Hid (leastR p0 [p1] = pl ∧ greatR p0 [p1] = ph)) (HB : Hid (leastR u0 [u1] = ul ∧ greatR u0 [u1] = uh)) (HOK : Hid (decide (0 < cmpQ (greatR pl [ul]) (leastR ph [uh])) = true)) (H1 : Hid (hasQ pl ph q = b1)) (H2 : Hid (hasQ ul uh q = b2)) (H3 : Hid ((b1 && b2) = false)) (HC1 : Hid (cmpQ pl q = c1)) (HE1 : Hid (decide (c1 ≤ 0) = e1)) (HC2 : Hid (cmpQ q ph = c2)) (HE2 : Hid (decide (c2 ≤ 0) = e2)) (HE : Hid ((e1 && e2) = b1)) (HC3 : Hid (cmpQ ph ul = c3)) (HF1 : Hid (decide (c3 < 0) = f1)) (HC4 : Hid (cmpQ uh pl = c4)) (HF2 : Hid (decide (c4 < 0) = f2)) (HF : Hid ((f1 || f2) = true)) (HW1 : Hid (hasQ ul uh pl = w1)) (HW2 : Hid (hasQ ul uh ph = w2)) (HW : Hid ((w1 && w2) = false)) (HI : Hid (insQ pl ph ul uh = false)) :
    Calls Tryz.prog 10 #[.agg #[.bool s1x, .slice a1x n1x c1x, .bool s1y, .slice a1y n1y c1y, .bool s1z, .slice a1z n1z c1z, .bool s1t, .slice a1t n1t c1t], .agg #[.bool s2x, .slice a2x n2x c2x, .bool s2y, .slice a2y n2y c2y, .bool s2z, .slice a2z n2z c2z, .bool s2t, .slice a2t n2t c2t], .agg #[.bool s3x, .slice a3x n3x c3x, .bool s3y, .slice a3y n3y c3y]] w (Ret w (IsV (.bool true))) := by
  obtain ⟨W, hW, S⟩ : ∃ W, W = ((w.alloc (.cells #[.bool s1x, .slice a1x n1x c1x, .bool s1y, .slice a1y n1y c1y, .bool s1z, .slice a1z n1z c1z, .bool s1t, .slice a1t n1t c1t] 66)).alloc (.cells #[.bool s2x, .slice a2x n2x c2x, .bool s2y, .slice a2y n2y c2y, .bool s2z, .slice a2z n2z c2z, .bool s2t, .slice a2t n2t c2t] 66)).alloc (.cells #[.bool s3x, .slice a3x n3x c3x, .bool s3y, .slice a3y n3y c3y] 26) ∧ Sto w W [((w.heap.size + 1 + 1, 1), IsR s3y x3d), ((w.heap.size + 1 + 1, 0), IsR s3x x3n), ((w.heap.size + 1, 3), IsR s2t x2zd), ((w.heap.size + 1, 2), IsR s2z x2zn), ((w.heap.size + 1, 1), IsR s2y x2xd), ((w.heap.size + 1, 0), IsR s2x x2xn), ((w.heap.size, 3), IsR s1t x1zd), ((w.heap.size, 2), IsR s1z x1zn), ((w.heap.size, 1), IsR s1y x1xd), ((w.heap.size, 0), IsR s1x x1xn)] := ⟨_, rfl, ((((Sto.start w).new4 (w.heap.size) (by simp) s1x s1y s1z s1t a1x a1y a1z a1t n1x c1x n1y c1y n1z c1z n1t c1t 66 (IsR s1x x1xn) (IsR s1y x1xd) (IsR s1z x1zn) (IsR s1t x1zd) (IsR.gstb _ _) (⟨_, _, _, rfl, h1x⟩) (IsR.gstb _ _) (⟨_, _, _, rfl, h1y⟩) (IsR.gstb _ _) (⟨_, _, _, rfl, h1z⟩) (IsR.gstb _ _) (⟨_, _, _, rfl, h1t⟩)).new4 (w.heap.size + 1) (by simp) s2x s2y s2z s2t a2x a2y a2z a2t n2x c2x n2y c2y n2z c2z n2t c2t 66 (IsR s2x x2xn) (IsR s2y x2xd) (IsR s2z x2zn) (IsR s2t x2zd) (IsR.gstb _ _) (⟨_, _, _, rfl, (h2x.ext ((Ext.refl _).alloc _))⟩) (IsR.gstb _ _) (⟨_, _, _, rfl, (h2y.ext ((Ext.refl _).alloc _))⟩) (IsR.gstb _ _) (⟨_, _, _, rfl, (h2z.ext ((Ext.refl _).alloc _))⟩) (IsR.gstb _ _) (⟨_, _, _, rfl, (h2t.ext ((Ext.refl _).alloc _))⟩)).new2 (w.heap.size + 1 + 1) (by simp) s3x s3y a3x a3y n3x c3x n3y c3y 26 (IsR s3x x3n) (IsR s3y x3d) (IsR.gstb _ _) (⟨_, _, _, rfl, ((h3x.ext ((Ext.refl _).alloc _)).ext ((Ext.refl _).alloc _))⟩) (IsR.gstb _ _) (⟨_, _, _, rfl, ((h3y.ext ((Ext.refl _).alloc _)).ext ((Ext.refl _).alloc _))⟩))⟩
  clear h1x h1y h1z h1t h2x h2y h2z h2t h3x h3y
  go_enter Tryz.func10, Tryz.ntmps10
  go_upto_region 1 with (fail)
  rw [← hW]
  clear hW
  refine rgs 2 [some 16, some 7] [IsV (.bool true), IsV (.bool true)] [] ?_ ?_
  · refine Rc (cl0 (en Tryz.func12)  (fun w' hE => examplesQ_f _ (ht.ext (S.ext.trans hE)))) ?_
    refine Rc (mv (Od.lc 0 16)) ?_
    exact RgAll.nil
  intro v W1 e1 hΦ _
  replace S := S.mono e1
  have v1 : v 1 = .bool true := hΦ 1 (by decide)
  simp only [layL, Act.put, List.setIfInBounds_toArray, List.set_cons_zero, List.set_cons_succ, Nat.reduceAdd]
  rw [v1]
  clear v1 hΦ e1
  refine wpList_nil ?_
  go_upto_region 2 with (fail)
  refine rgs 2 [some 17, some 18] [IsV (.bool true), IsV (.bool false)] [] ?_ ?_
  · refine Rc (mv (Od.lit 7)) ?_
    refine Rc (nt (Od.loc 0 17)) ?_
    exact RgAll.nil
  intro v W2 e1 hΦ _
  replace S := S.mono e1
  have v1 : v 1 = .bool false := hΦ 1 (by decide)
  simp only [layL, Act.put, List.setIfInBounds_toArray, List.set_cons_zero, List.set_cons_succ, Nat.reduceAdd]
  rw [v1]
  clear v1 hΦ e1
  refine wpList_nil ?_
  go_upto_region 4 with (fail)
  have hl := hid S.lt; have hw := S.ext.size
  refine rgn 22 [some 19, some 20, some 21, some 22, some 23, some 24, some 25, some 26, some 27, some 28, some 29, some 30, some 31, some 32, some 33, some 34, some 8, some 9, some 10, none, none, none] [IsV (.pointer (some ⟨w.heap.size, 0, none⟩)), IsQ (IsR s1x x1xn) (IsR s1y x1xd), IsQ (IsI 5 p0.num) (IsI 5 ((p0.den : Int))), IsV (.pointer (some ⟨w.heap.size, 4, none⟩)), IsQ (IsR s1z x1zn) (IsR s1t x1zd), IsQ (IsI 5 p1.num) (IsI 5 ((p1.den : Int))), IsJ (IsI 5 pl.num) (IsI 5 ((pl.den : Int))) (IsI 5 ph.num) (IsI 5 ((ph.den : Int))), IsV (.pointer (some ⟨w.heap.size + 1, 0, none⟩)), IsQ (IsR s2x x2xn) (IsR s2y x2xd), IsQ (IsI 5 u0.num) (IsI 5 ((u0.den : Int))), IsV (.pointer (some ⟨w.heap.size + 1, 4, none⟩)), IsQ (IsR s2z x2zn) (IsR s2t x2zd), IsQ (IsI 5 u1.num) (IsI 5 ((u1.den : Int))), IsJ (IsI 5 ul.num) (IsI 5 ((ul.den : Int))) (IsI 5 uh.num) (IsI 5 ((uh.den : Int))), IsQ (IsR s3x x3n) (IsR s3y x3d), IsQ (IsI 5 q.num) (IsI 5 ((q.den : Int))), IsNw W2 4, IsNw W2 4, IsNw W2 2, TT, TT, TT] [16, 17, 18] [none, none, none, none, none, none, none, none, none, none, none, none, none, none, none, none, none, none, none, some (16, [IsI 5 pl.num, IsI 5 ((pl.den : Int)), IsI 5 ph.num, IsI 5 ((ph.den : Int))]), some (17, [IsI 5 ul.num, IsI 5 ((ul.den : Int)), IsI 5 uh.num, IsI 5 ((uh.den : Int))]), some (18, [IsI 5 q.num, IsI 5 ((q.den : Int))])] [none, none, none, none, none, none, none, none, none, none, none, none, none, none, none, none, none, none, none, some 16, some 17, some 18] 0 ?_ ?_
  · refine RcK (ix (ia_P2_0 (w.heap.size) 0) (Od.lit 3) Od.con) ?_
    refine RcK (ldQ S 9 8 (w.heap.size) 0 (Od.lc 0 19) ld_RawQ rfl rfl) ?_
    refine RcK (cl2 (en Tryz.func13) (Od.lc (Φ := IsQ (IsR s1x x1xn) (IsR s1y x1xd)) 1 20) Od.con (fun x0 x1 w' hE d0 d1 => by { obtain rfl : x1 = .int .i64 3 := d1; exact Calls.mono (rqMade_f d0 3 (by decide)) fun _ _ h => h.ratz HP0.out (Nat.le_refl _) })) ?_
    refine RcK (ix (ia_P2_1 (w.heap.size) 0) (Od.lit 3) Od.con) ?_
    refine RcK (ldQ S 7 6 (w.heap.size) 2 (Od.lc 3 22) ld_RawQ rfl rfl) ?_
    refine RcK (cl2 (en Tryz.func13) (Od.lc (Φ := IsQ (IsR s1z x1zn) (IsR s1t x1zd)) 4 23) Od.con (fun x0 x1 w' hE d0 d1 => by { obtain rfl : x1 = .int .i64 3 := d1; exact Calls.mono (rqMade_f d0 3 (by decide)) fun _ _ h => h.ratz HP1.out (Nat.le_refl _) })) ?_
    refine RcK (cl2 (en Tryz.func56) (Od.lc (Φ := IsQ (IsI 5 p0.num) (IsI 5 ((p0.den : Int)))) 2 21) (Od.lc (Φ := IsQ (IsI 5 p1.num) (IsI 5 ((p1.den : Int)))) 5 24) (fun x0 x1 w' hE d0 d1 => Calls.mono (rqSpan_f d0 d1 (by decide)) fun _ _ h => h.iv HA.out.1 HA.out.2)) ?_
    refine RcK (ix (ia_P2_0 (w.heap.size + 1) 0) (Od.lit 4) Od.con) ?_
    refine RcK (ldQ S 5 4 (w.heap.size + 1) 0 (Od.lc 7 26) ld_RawQ rfl rfl) ?_
    refine RcK (cl2 (en Tryz.func13) (Od.lc (Φ := IsQ (IsR s2x x2xn) (IsR s2y x2xd)) 8 27) Od.con (fun x0 x1 w' hE d0 d1 => by { obtain rfl : x1 = .int .i64 3 := d1; exact Calls.mono (rqMade_f d0 3 (by decide)) fun _ _ h => h.ratz HU0.out (Nat.le_refl _) })) ?_
    refine RcK (ix (ia_P2_1 (w.heap.size + 1) 0) (Od.lit 4) Od.con) ?_
    refine RcK (ldQ S 3 2 (w.heap.size + 1) 2 (Od.lc 10 29) ld_RawQ rfl rfl) ?_
    refine RcK (cl2 (en Tryz.func13) (Od.lc (Φ := IsQ (IsR s2z x2zn) (IsR s2t x2zd)) 11 30) Od.con (fun x0 x1 w' hE d0 d1 => by { obtain rfl : x1 = .int .i64 3 := d1; exact Calls.mono (rqMade_f d0 3 (by decide)) fun _ _ h => h.ratz HU1.out (Nat.le_refl _) })) ?_
    refine RcK (cl2 (en Tryz.func56) (Od.lc (Φ := IsQ (IsI 5 u0.num) (IsI 5 ((u0.den : Int)))) 9 28) (Od.lc (Φ := IsQ (IsI 5 u1.num) (IsI 5 ((u1.den : Int)))) 12 31) (fun x0 x1 w' hE d0 d1 => Calls.mono (rqSpan_f d0 d1 (by decide)) fun _ _ h => h.iv HB.out.1 HB.out.2)) ?_
    refine RcK (ldQ S 1 0 (w.heap.size + 1 + 1) 0 (Od.lit 5) ld_RawQ rfl rfl) ?_
    refine RcK (cl2 (en Tryz.func13) (Od.lc (Φ := IsQ (IsR s3x x3n) (IsR s3y x3d)) 14 33) Od.con (fun x0 x1 w' hE d0 d1 => by { obtain rfl : x1 = .int .i64 3 := d1; exact Calls.mono (rqMade_f d0 3 (by decide)) fun _ _ h => h.ratz HQ.out (Nat.le_refl _) })) ?_
    refine RcK (alN al_Iv) ?_
    refine RcK (alN al_Iv) ?_
    refine RcK (alN al_Rat) ?_
    refine RcS 16 (sJ st_Iv (Od.lc (Φ := IsJ (IsI 5 pl.num) (IsI 5 ((pl.den : Int))) (IsI 5 ph.num) (IsI 5 ((ph.den : Int)))) 6 25) (IsI.gstb _ _) (IsI.gstb _ _) (IsI.gstb _ _) (IsI.gstb _ _)) ?_
    refine RcS 17 (sJ st_Iv (Od.lc (Φ := IsJ (IsI 5 ul.num) (IsI 5 ((ul.den : Int))) (IsI 5 uh.num) (IsI 5 ((uh.den : Int)))) 13 32) (IsI.gstb _ _) (IsI.gstb _ _) (IsI.gstb _ _) (IsI.gstb _ _)) ?_
    refine RcS 18 (sQ st_Rat (Od.lc (Φ := IsQ (IsI 5 q.num) (IsI 5 ((q.den : Int)))) 15 34) (IsI.gstb _ _) (IsI.gstb _ _)) ?_
    exact RgAllN.nil
  intro v W3 e1 hΦ hS hne
  replace S := S.mono e1
  obtain ⟨g8, v16, q1, S2⟩ := S.addJ (hΦ 16 (by decide) rfl) (hS 19 (by decide) _ _ rfl) hw (IsI.gstb _ _) (IsI.gstb _ _) (IsI.gstb _ _) (IsI.gstb _ _)
  replace S := S2 (ApartO.old hl.out q1); clear S2
  obtain ⟨g9, v17, q2, S2⟩ := S.addJ (hΦ 17 (by decide) rfl) (hS 20 (by decide) _ _ rfl) hw (IsI.gstb _ _) (IsI.gstb _ _) (IsI.gstb _ _) (IsI.gstb _ _)
  replace S := S2 (ApartO.cons (fun h => hne 16 17 (by decide) (by decide) (by decide) (by decide) (by decide) rfl rfl (by rw [v16, v17, h])) (ApartO.cons (fun h => hne 16 17 (by decide) (by decide) (by decide) (by decide) (by decide) rfl rfl (by rw [v16, v17, h])) (ApartO.cons (fun h => hne 16 17 (by decide) (by decide) (by decide) (by decide) (by decide) rfl rfl (by rw [v16, v17, h])) (ApartO.cons (fun h => hne 16 17 (by decide) (by decide) (by decide) (by decide) (by decide) rfl rfl (by rw [v16, v17, h])) (ApartO.old hl.out q2))))); clear S2
  obtain ⟨g10, v18, q3, S2⟩ := S.addQ (hΦ 18 (by decide) rfl) (hS 21 (by decide) _ _ rfl) hw (IsI.gstb _ _) (IsI.gstb _ _)
  replace S := S2 (ApartO.cons (fun h => hne 17 18 (by decide) (by decide) (by decide) (by decide) (by decide) rfl rfl (by rw [v17, v18, h])) (ApartO.cons (fun h => hne 17 18 (by decide) (by decide) (by decide) (by decide) (by decide) rfl rfl (by rw [v17, v18, h])) (ApartO.cons (fun h => hne 17 18 (by decide) (by decide) (by decide) (by decide) (by decide) rfl rfl (by rw [v17, v18, h])) (ApartO.cons (fun h => hne 17 18 (by decide) (by decide) (by decide) (by decide) (by decide) rfl rfl (by rw [v17, v18, h])) (ApartO.cons (fun h => hne 16 18 (by decide) (by decide) (by decide) (by decide) (by decide) rfl rfl (by rw [v16, v18, h])) (ApartO.cons (fun h => hne 16 18 (by decide) (by decide) (by decide) (by decide) (by decide) rfl rfl (by rw [v16, v18, h])) (ApartO.cons (fun h => hne 16 18 (by decide) (by decide) (by decide) (by decide) (by decide) rfl rfl (by rw [v16, v18, h])) (ApartO.cons (fun h => hne 16 18 (by decide) (by decide) (by decide) (by decide) (by decide) rfl rfl (by rw [v16, v18, h])) (ApartO.old hl.out q3))))))))); clear S2
  simp only [layL, Act.put, List.setIfInBounds_toArray, List.set_cons_zero, List.set_cons_succ, Nat.reduceAdd]
  rw [v16, v17, v18]
  clear hl hw hne v16 v17 v18 hΦ hS e1
  refine wpAny_done (by kernel_rfl) ?_ _
  go_upto_region 5 with (fail)
  have hl := hid S.lt; have hw := S.ext.size
  refine rgs 7 [some 36, some 37, some 38, some 35, some 39, some 40, some 11] [IsJ (IsI 5 pl.num) (IsI 5 ((pl.den : Int))) (IsI 5 ph.num) (IsI 5 ((ph.den : Int))), IsJ (IsI 5 ul.num) (IsI 5 ((ul.den : Int))) (IsI 5 uh.num) (IsI 5 ((uh.den : Int))), IsT2 (IsJ (IsI 0 0) (IsI 0 0) (IsI 0 0) (IsI 0 0)) (IsV (.bool false)), IsT2 (IsJ (IsI 0 0) (IsI 0 0) (IsI 0 0) (IsI 0 0)) (IsV (.bool false)), IsJ (IsI 0 0) (IsI 0 0) (IsI 0 0) (IsI 0 0), IsV (.bool false), IsBo W3 4] [6] ?_ ?_
  · refine Rc (ldJ S 9 8 7 6 (g8) 0 (Od.lit 8) ld_Iv rfl rfl rfl rfl) ?_
    refine Rc (ldJ S 5 4 3 2 (g9) 0 (Od.lit 9) ld_Iv rfl rfl rfl rfl) ?_
    refine Rc (cl2 (en Tryz.func57) (Od.lc (Φ := IsJ (IsI 5 pl.num) (IsI 5 ((pl.den : Int))) (IsI 5 ph.num) (IsI 5 ((ph.den : Int)))) 0 36) (Od.lc (Φ := IsJ (IsI 5 ul.num) (IsI 5 ((ul.den : Int))) (IsI 5 uh.num) (IsI 5 ((uh.den : Int)))) 1 37) (fun x0 x1 w' hE d0 d1 => qMeet_n d0 d1 (by decide) HOK.out)) ?_
    refine Rc (mv (Od.lc 2 38)) ?_
    refine Rc (ex (Od.loc 3 35) t20) ?_
    refine Rc (ex (Od.loc 3 35) t21) ?_
    refine Rc (al al_Iv) ?_
    exact RgAll.nil
  intro v W4 e1 hΦ _
  replace S := S.mono e1
  have h39 := hΦ 4 (by decide)
  have v5 : v 5 = .bool false := hΦ 5 (by decide)
  obtain ⟨g11, v6, q5, b4, _⟩ := (hΦ 6 (by decide) : IsBo W3 4 (v 6) W4)
  replace S := S.addN 4 (ApartO.old hl.out q5) (Nat.le_trans hw q5) b4
  simp only [newF, List.cons_append, List.nil_append] at S
  simp only [layL, Act.put, List.setIfInBounds_toArray, List.set_cons_zero, List.set_cons_succ, Nat.reduceAdd]
  rw [v5, v6]
  clear b4 hl hw v5 v6 hΦ e1
  try simp only [List.drop_succ_cons, List.drop_zero]
  (with_reducible refine stL ?_ (by rfl)); intro KK hKK; refine stJ S 3 2 1 0 (g11) 0 h39 (IsI.gstb _ _) (IsI.gstb _ _) (IsI.gstb _ _) (IsI.gstb _ _) st_Iv (fun W5 S2 G2 => hKK _ _ ?_) rfl rfl rfl rfl
  replace S := S2; clear S2 G2 hKK KK h39
  simp only [List.set_cons_zero, List.set_cons_succ] at S
  refine wpList_step fun K hK => ?_; go_simp; refine hK _ _ ?_; clear hK K
  refine wpList_nil ?_
  go_upto_region 6 with (fail)
  refine rgs 9 [some 41, some 42, some 43, some 44, some 45, some 46, some 47, some 48, some 13] [IsJ (IsI 5 pl.num) (IsI 5 ((pl.den : Int))) (IsI 5 ph.num) (IsI 5 ((ph.den : Int))), IsQ (IsI 5 q.num) (IsI 5 ((q.den : Int))), IsV (.bool b1), IsV (.bool b1), IsIf (b1) (IsJ (IsI 5 ul.num) (IsI 5 ((ul.den : Int))) (IsI 5 uh.num) (IsI 5 ((uh.den : Int)))), IsIf (b1) (IsQ (IsI 5 q.num) (IsI 5 ((q.den : Int)))), IsIf (b1) (IsV (.bool b2)), IsV (.bool false), IsV (.bool false)] [] ?_ ?_ (hst := by repeat' (first | exact trivial | apply IsIf.stb | exact IsV.stb _ | exact IsI.stb _ _ | apply IsJ.stb | apply IsQ.stb | apply And.intro))
  · refine Rc (ldJ S 13 12 11 10 (g8) 0 (Od.lit 8) ld_Iv rfl rfl rfl rfl) ?_
    refine Rc (ldQ S 5 4 (g10) 0 (Od.lit 10) ld_Rat rfl rfl) ?_
    refine Rc (cl2 (en Tryz.func58) (Od.lc (Φ := IsJ (IsI 5 pl.num) (IsI 5 ((pl.den : Int))) (IsI 5 ph.num) (IsI 5 ((ph.den : Int)))) 0 41) (Od.lc (Φ := IsQ (IsI 5 q.num) (IsI 5 ((q.den : Int)))) 1 42) (fun x0 x1 w' hE d0 d1 => Calls.mono (qHas_f d0 d1 (by decide)) fun _ _ h => RetB h H1.out)) ?_
    refine Rc (mv (Od.lc 2 43)) ?_
    refine RcB 3 44 b1 true (fun hb => by subst hb; exact ldJ S 9 8 7 6 (g9) 0 (Od.lit 9) ld_Iv rfl rfl rfl rfl) ?_
    refine RcB 3 44 b1 true (fun hb => by subst hb; exact ldQ S 5 4 (g10) 0 (Od.lit 10) ld_Rat rfl rfl) ?_
    refine RcB 3 44 b1 true (fun hb => by subst hb; exact cl2 (en Tryz.func58) (Od.lc (Φ := IsJ (IsI 5 ul.num) (IsI 5 ((ul.den : Int))) (IsI 5 uh.num) (IsI 5 ((uh.den : Int)))) 4 45) (Od.lc (Φ := IsQ (IsI 5 q.num) (IsI 5 ((q.den : Int)))) 5 46) (fun x0 x1 w' hE d0 d1 => Calls.mono (qHas_f d0 d1 (by decide)) fun _ _ h => RetB h H2.out)) ?_
    refine Rc (pkA (b2 := b2) (Od.loc 3 44) (fun hb => by subst hb; exact Od.lc 6 47) (H3.out)) ?_
    refine Rc (mv (Od.lc 7 48)) ?_
    exact RgAll.nil
  intro v W6 e1 hΦ _
  replace S := S.mono e1
  have v8 : v 8 = .bool false := hΦ 8 (by decide)
  simp only [layL, Act.put, List.setIfInBounds_toArray, List.set_cons_zero, List.set_cons_succ, Nat.reduceAdd]
  rw [v8]
  clear v8 hΦ e1
  refine wpList_nil ?_
  go_upto_region 7 with (fail)
  refine rg 23 [some 49, some 50, some 51, some 52, some 53, some 54, some 55, some 56, some 57, some 58, some 59, some 60, some 61, some 62, some 63, some 64, some 65, some 66, some 67, some 68, some 69, some 70, some 71] [IsJ (IsI 5 pl.num) (IsI 5 ((pl.den : Int))) (IsI 5 ph.num) (IsI 5 ((ph.den : Int))), IsQ (IsI 5 q.num) (IsI 5 ((q.den : Int))), IsV (.bool b1), IsV (.pointer (some ⟨g8, 0, none⟩)), IsQ (IsI 5 pl.num) (IsI 5 ((pl.den : Int))), IsQ (IsI 5 q.num) (IsI 5 ((q.den : Int))), IsV (.int .i64 c1), IsV (.bool e1), IsV (.bool e1), IsIf (e1) (IsQ (IsI 5 q.num) (IsI 5 ((q.den : Int)))), IsIf (e1) (IsV (.pointer (some ⟨g8, 4, none⟩))), IsIf (e1) (IsQ (IsI 5 ph.num) (IsI 5 ((ph.den : Int)))), IsIf (e1) (IsV (.int .i64 c2)), IsIf (e1) (IsV (.bool e2)), IsV (.bool b1), IsV (.bool false), IsV (.bool false), IsV (.bool false), IsV (.bool false), IsV (undef), IsV (undef), IsV (.bool false), IsV (.bool false)] [] 0 ?_ ?_ (hst := by repeat' (first | exact trivial | apply IsIf.stb | exact IsV.stb _ | exact IsI.stb _ _ | apply IsJ.stb | apply IsQ.stb | apply And.intro))
  · refine Rc (ldJ S 13 12 11 10 (g8) 0 (Od.lit 8) ld_Iv rfl rfl rfl rfl) ?_
    refine Rc (ldQ S 5 4 (g10) 0 (Od.lit 10) ld_Rat rfl rfl) ?_
    refine Rc (cl2 (en Tryz.func58) (Od.lc (Φ := IsJ (IsI 5 pl.num) (IsI 5 ((pl.den : Int))) (IsI 5 ph.num) (IsI 5 ((ph.den : Int)))) 0 49) (Od.lc (Φ := IsQ (IsI 5 q.num) (IsI 5 ((q.den : Int)))) 1 50) (fun x0 x1 w' hE d0 d1 => Calls.mono (qHas_f d0 d1 (by decide)) fun _ _ h => RetB h H1.out)) ?_
    refine Rc (fa (fa_Iv0 (g8) 0) (Od.lit 8)) ?_
    refine Rc (ldQ S 13 12 (g8) 0 (Od.lc 3 52) ld_Rat rfl rfl) ?_
    refine Rc (ldQ S 5 4 (g10) 0 (Od.lit 10) ld_Rat rfl rfl) ?_
    refine Rc (cl2 (en Tryz.func28) (Od.lc (Φ := IsQ (IsI 5 pl.num) (IsI 5 ((pl.den : Int)))) 4 53) (Od.lc (Φ := IsQ (IsI 5 q.num) (IsI 5 ((q.den : Int)))) 5 54) (fun x0 x1 w' hE d0 d1 => Calls.mono (rqCmp_f d0 d1 (by decide) (by decide)) fun _ _ h => h.int HC1.out)) ?_
    refine Rc (bn (r := .bool e1) (Od.loc 6 55) Od.con (hr := fun w => by have hx9 := HE1.out; go_simp)) ?_
    refine Rc (mv (Od.lc 7 56)) ?_
    refine RcB 8 57 e1 true (fun hb => by subst hb; exact ldQ S 5 4 (g10) 0 (Od.lit 10) ld_Rat rfl rfl) ?_
    refine RcB 8 57 e1 true (fun hb => by subst hb; exact fa (fa_Iv1 (g8) 0) (Od.lit 8)) ?_
    refine RcB 8 57 e1 true (fun hb => by subst hb; exact ldQ S 11 10 (g8) 2 (Od.lc 10 59) ld_Rat rfl rfl) ?_
    refine RcB 8 57 e1 true (fun hb => by subst hb; exact cl2 (en Tryz.func28) (Od.lc (Φ := IsQ (IsI 5 q.num) (IsI 5 ((q.den : Int)))) 9 58) (Od.lc (Φ := IsQ (IsI 5 ph.num) (IsI 5 ((ph.den : Int)))) 11 60) (fun x0 x1 w' hE d0 d1 => Calls.mono (rqCmp_f d0 d1 (by decide) (by decide)) fun _ _ h => h.int HC2.out)) ?_
    refine RcB 8 57 e1 true (fun hb => by subst hb; exact bn (r := .bool e2) (Od.loc 12 61) Od.con (hr := fun w => by have hx9 := HE2.out; go_simp)) ?_
    refine Rc (pkA (b2 := e2) (Od.loc 8 57) (fun hb => by subst hb; exact Od.lc 13 62) (HE.out)) ?_
    refine Rc (bn (r := .bool false) (Od.loc 2 51) (Od.loc 14 63) (hr := fun w => by go_simp)) ?_
    refine Rc (mv (Od.lc 15 64)) ?_
    refine RcG 16 65 false (mv (Od.lit 13)) ?_
    refine RcG 16 65 false (mv (Od.lc 17 66)) ?_
    refine RcN 18 67 false ?_
    refine RcN 18 67 false ?_
    refine RcG 16 65 false (pk (Od.loc 18 67) Od.con) ?_
    refine Rc (pk (Od.loc 16 65) (Od.lc 21 70)) ?_
    exact RgAll.nil
  intro v W7 e1 hΦ _
  replace S := S.mono e1
  have v22 : v 22 = .bool false := hΦ 22 (by decide)
  simp only [layL, Act.put, List.setIfInBounds_toArray, List.set_cons_zero, List.set_cons_succ, Nat.reduceAdd]
  rw [v22]
  clear v22 hΦ e1
  refine wpAny_done (by kernel_rfl) ?_ _
  go_upto_region 9 with (fail)
  refine rgs 15 [some 72, some 73, some 74, some 75, some 76, some 77, some 78, some 79, some 80, some 81, some 82, some 83, some 84, some 85, some 14] [IsV (.pointer (some ⟨g8, 4, none⟩)), IsQ (IsI 5 ph.num) (IsI 5 ((ph.den : Int))), IsV (.pointer (some ⟨g9, 0, none⟩)), IsQ (IsI 5 ul.num) (IsI 5 ((ul.den : Int))), IsV (.int .i64 c3), IsV (.bool f1), IsV (.bool f1), IsIf (!f1) (IsV (.pointer (some ⟨g9, 4, none⟩))), IsIf (!f1) (IsQ (IsI 5 uh.num) (IsI 5 ((uh.den : Int)))), IsIf (!f1) (IsV (.pointer (some ⟨g8, 0, none⟩))), IsIf (!f1) (IsQ (IsI 5 pl.num) (IsI 5 ((pl.den : Int)))), IsIf (!f1) (IsV (.int .i64 c4)), IsIf (!f1) (IsV (.bool f2)), IsV (.bool true), IsV (.bool true)] [] ?_ ?_ (hst := by repeat' (first | exact trivial | apply IsIf.stb | exact IsV.stb _ | exact IsI.stb _ _ | apply IsJ.stb | apply IsQ.stb | apply And.intro))
  · refine Rc (fa (fa_Iv1 (g8) 0) (Od.lit 8)) ?_
    refine Rc (ldQ S 11 10 (g8) 2 (Od.lc 0 72) ld_Rat rfl rfl) ?_
    refine Rc (fa (fa_Iv0 (g9) 0) (Od.lit 9)) ?_
    refine Rc (ldQ S 9 8 (g9) 0 (Od.lc 2 74) ld_Rat rfl rfl) ?_
    refine Rc (cl2 (en Tryz.func28) (Od.lc (Φ := IsQ (IsI 5 ph.num) (IsI 5 ((ph.den : Int)))) 1 73) (Od.lc (Φ := IsQ (IsI 5 ul.num) (IsI 5 ((ul.den : Int)))) 3 75) (fun x0 x1 w' hE d0 d1 => Calls.mono (rqCmp_f d0 d1 (by decide) (by decide)) fun _ _ h => h.int HC3.out)) ?_
    refine Rc (bn (r := .bool f1) (Od.loc 4 76) Od.con (hr := fun w => by have hx9 := HF1.out; go_simp)) ?_
    refine Rc (mv (Od.lc 5 77)) ?_
    refine RcB 6 78 f1 false (fun hb => by subst hb; exact fa (fa_Iv1 (g9) 0) (Od.lit 9)) ?_
    refine RcB 6 78 f1 false (fun hb => by subst hb; exact ldQ S 7 6 (g9) 2 (Od.lc 7 79) ld_Rat rfl rfl) ?_
    refine RcB 6 78 f1 false (fun hb => by subst hb; exact fa (fa_Iv0 (g8) 0) (Od.lit 8)) ?_
    refine RcB 6 78 f1 false (fun hb => by subst hb; exact ldQ S 13 12 (g8) 0 (Od.lc 9 81) ld_Rat rfl rfl) ?_
    refine RcB 6 78 f1 false (fun hb => by subst hb; exact cl2 (en Tryz.func28) (Od.lc (Φ := IsQ (IsI 5 uh.num) (IsI 5 ((uh.den : Int)))) 8 80) (Od.lc (Φ := IsQ (IsI 5 pl.num) (IsI 5 ((pl.den : Int)))) 10 82) (fun x0 x1 w' hE d0 d1 => Calls.mono (rqCmp_f d0 d1 (by decide) (by decide)) fun _ _ h => h.int HC4.out)) ?_
    refine RcB 6 78 f1 false (fun hb => by subst hb; exact bn (r := .bool f2) (Od.loc 11 83) Od.con (hr := fun w => by have hx9 := HF2.out; go_simp)) ?_
    refine Rc (pkO (b2 := f2) (Od.loc 6 78) (fun hb => by subst hb; exact Od.lc 12 84) (HF.out)) ?_
    refine Rc (mv (Od.lc 13 85)) ?_
    exact RgAll.nil
  intro v W8 e1 hΦ _
  replace S := S.mono e1
  have v14 : v 14 = .bool true := hΦ 14 (by decide)
  simp only [layL, Act.put, List.setIfInBounds_toArray, List.set_cons_zero, List.set_cons_succ, Nat.reduceAdd]
  rw [v14]
  clear v14 hΦ e1
  refine wpList_nil ?_
  go_upto_region 10 with (fail)
  refine rgs 33 [some 86, some 87, some 88, some 89, some 90, some 91, some 92, some 93, some 94, some 95, some 96, some 97, some 98, some 99, some 100, some 101, some 102, some 103, some 104, some 105, some 106, some 107, some 108, some 109, some 110, some 111, some 112, some 113, some 114, some 115, some 116, some 117, some 118] [IsV (.bool false), IsV (.bool true), IsV (.bool false), IsV (.bool false), IsV (.bool false), IsV (.bool false), IsV (undef), IsV (undef), IsV (undef), IsV (undef), IsV (undef), IsV (.bool false), IsV (.bool false), IsV (.bool false), IsV (.bool false), IsV (.bool true), IsV (.bool true), IsV (.pointer (some ⟨g11, 0, none⟩)), IsV (.pointer (some ⟨g11, 2, none⟩)), IsV (.pointer (some ⟨g11, 3, none⟩)), IsS0, IsV (.int .i64 0), IsV (.bool false), IsV (.bool false), IsV (.pointer (some ⟨g11, 4, none⟩)), IsV (.pointer (some ⟨g11, 6, none⟩)), IsV (.pointer (some ⟨g11, 7, none⟩)), IsS0, IsV (.int .i64 0), IsV (.bool false), IsV (.bool false), IsV (.bool false), IsV (.bool false)] [] ?_ ?_ (hst := by repeat' (first | exact trivial | exact IsS0.stb | exact IsV.stb _ | exact IsI.stb _ _ | exact IsBo.stb _ _ | apply IsJ.stb | apply IsQ.stb | apply And.intro))
  · refine Rc (mv (Od.lit 12)) ?_
    refine Rc (mv (Od.lit 14)) ?_
    refine Rc (bn (r := .bool false) (Od.loc 0 86) (Od.loc 1 87) (hr := fun w => by go_simp)) ?_
    refine Rc (mv (Od.lc 2 88)) ?_
    refine RcG 3 89 false (mv (Od.lit 12)) ?_
    refine RcG 3 89 false (mv (Od.lc 4 90)) ?_
    refine RcN 5 91 false ?_
    refine RcN 5 91 false ?_
    refine RcN 5 91 false ?_
    refine RcN 5 91 false ?_
    refine RcN 5 91 false ?_
    refine RcG 3 89 false (pk (Od.loc 5 91) Od.con) ?_
    refine Rc (pk (Od.loc 3 89) (Od.lc 11 97)) ?_
    refine Rc (mv (Od.lc 12 98)) ?_
    refine RcG 13 99 false (mv (Od.lit 12)) ?_
    refine RcG 13 99 false (nt (Od.loc 14 100)) ?_
    refine RcG 13 99 false (mv (Od.lc 15 101)) ?_
    refine RcG 16 102 true (fa (fa_Iv0 (g11) 0) (Od.lit 11)) ?_
    refine RcG 16 102 true (fa (fa_Rat1 (g11) 0) (Od.lc 17 103)) ?_
    refine RgAll.cons (by { (with_reducible refine RgL.mkG 16 102 true (by rfl) (by kernel_rfl) (by kernel_rfl) (by kernel_rfl) (by kernel_rfl) (by kernel_rfl) ?_ ?_); (focus (intro _ _ h; exact h)); intro v a w' hE hd hf; have d0 : v 18 = .pointer (some ⟨g11, 2, none⟩) := hd 18 (by kernel_rfl); have ev0 := hf.val 18 104 _ d0 (by kernel_rfl) (by kernel_rfl) (by kernel_rfl); clear d0; clear hd hf; intro K hK; go_simp; exact hK.out _ _ (Ext.refl _) rfl (FreshIf.no rfl) }) ?_
    refine RcG 16 102 true (ldW S 2 (g11) 1 (Od.lc 19 105)) ?_
    refine RcG 16 102 true (len0 (Od.loc 20 106)) ?_
    refine RcG 16 102 true (bn (r := .bool false) (Od.loc 21 107) Od.con (hr := fun w => by go_simp)) ?_
    refine RcG 16 102 true (mv (Od.lc 22 108)) ?_
    refine RcG 23 109 false (fa (fa_Iv1 (g11) 0) (Od.lit 11)) ?_
    refine RcG 23 109 false (fa (fa_Rat1 (g11) 4) (Od.lc 24 110)) ?_
    refine RgAll.cons (by { (with_reducible refine RgL.mkG 23 109 false (by rfl) (by kernel_rfl) (by kernel_rfl) (by kernel_rfl) (by kernel_rfl) (by kernel_rfl) ?_ ?_); (focus (intro _ _ h; exact h)); intro v a w' hE hd hf; have d0 : v 25 = .pointer (some ⟨g11, 6, none⟩) := hd 25 (by kernel_rfl); have ev0 := hf.val 25 111 _ d0 (by kernel_rfl) (by kernel_rfl) (by kernel_rfl); clear d0; clear hd hf; intro K hK; go_simp; exact hK.out _ _ (Ext.refl _) rfl (FreshIf.no rfl) }) ?_
    refine RcG 23 109 false (ldW S 0 (g11) 3 (Od.lc 26 112)) ?_
    refine RcG 23 109 false (len0 (Od.loc 27 113)) ?_
    refine RcG 23 109 false (bn (r := .bool false) (Od.loc 28 114) Od.con (hr := fun w => by go_simp)) ?_
    refine RcG 16 102 true (pk (Od.loc 23 109) (Od.lc 29 115)) ?_
    refine RcG 13 99 false (pk (Od.loc 16 102) (Od.lc 30 116)) ?_
    refine Rc (pk (Od.loc 13 99) (Od.lc 31 117)) ?_
    exact RgAll.nil
  intro v W9 e1 hΦ _
  replace S := S.mono e1
  have v32 : v 32 = .bool false := hΦ 32 (by decide)
  simp only [layL, Act.put, List.setIfInBounds_toArray, List.set_cons_zero, List.set_cons_succ, Nat.reduceAdd]
  rw [v32]
  clear v32 hΦ e1
  refine wpList_nil ?_
  go_upto_region 12 with (fail)
  refine rgs 11 [some 119, some 120, some 121, some 122, some 123, some 124, some 125, some 126, some 127, some 128, some 15] [IsJ (IsI 5 ul.num) (IsI 5 ((ul.den : Int))) (IsI 5 uh.num) (IsI 5 ((uh.den : Int))), IsV (.pointer (some ⟨g8, 0, none⟩)), IsQ (IsI 5 pl.num) (IsI 5 ((pl.den : Int))), IsV (.bool w1), IsV (.bool w1), IsIf (w1) (IsJ (IsI 5 ul.num) (IsI 5 ((ul.den : Int))) (IsI 5 uh.num) (IsI 5 ((uh.den : Int)))), IsIf (w1) (IsV (.pointer (some ⟨g8, 4, none⟩))), IsIf (w1) (IsQ (IsI 5 ph.num) (IsI 5 ((ph.den : Int)))), IsIf (w1) (IsV (.bool w2)), IsV (.bool false), IsV (.bool false)] [] ?_ ?_ (hst := by repeat' (first | exact trivial | apply IsIf.stb | exact IsV.stb _ | exact IsI.stb _ _ | apply IsJ.stb | apply IsQ.stb | apply And.intro))
  · refine Rc (ldJ S 9 8 7 6 (g9) 0 (Od.lit 9) ld_Iv rfl rfl rfl rfl) ?_
    refine Rc (fa (fa_Iv0 (g8) 0) (Od.lit 8)) ?_
    refine Rc (ldQ S 13 12 (g8) 0 (Od.lc 1 120) ld_Rat rfl rfl) ?_
    refine Rc (cl2 (en Tryz.func58) (Od.lc (Φ := IsJ (IsI 5 ul.num) (IsI 5 ((ul.den : Int))) (IsI 5 uh.num) (IsI 5 ((uh.den : Int)))) 0 119) (Od.lc (Φ := IsQ (IsI 5 pl.num) (IsI 5 ((pl.den : Int)))) 2 121) (fun x0 x1 w' hE d0 d1 => Calls.mono (qHas_f d0 d1 (by decide)) fun _ _ h => RetB h HW1.out)) ?_
    refine Rc (mv (Od.lc 3 122)) ?_
    refine RcB 4 123 w1 true (fun hb => by subst hb; exact ldJ S 9 8 7 6 (g9) 0 (Od.lit 9) ld_Iv rfl rfl rfl rfl) ?_
    refine RcB 4 123 w1 true (fun hb => by subst hb; exact fa (fa_Iv1 (g8) 0) (Od.lit 8)) ?_
    refine RcB 4 123 w1 true (fun hb => by subst hb; exact ldQ S 11 10 (g8) 2 (Od.lc 6 125) ld_Rat rfl rfl) ?_
    refine RcB 4 123 w1 true (fun hb => by subst hb; exact cl2 (en Tryz.func58) (Od.lc (Φ := IsJ (IsI 5 ul.num) (IsI 5 ((ul.den : Int))) (IsI 5 uh.num) (IsI 5 ((uh.den : Int)))) 5 124) (Od.lc (Φ := IsQ (IsI 5 ph.num) (IsI 5 ((ph.den : Int)))) 7 126) (fun x0 x1 w' hE d0 d1 => Calls.mono (qHas_f d0 d1 (by decide)) fun _ _ h => RetB h HW2.out)) ?_
    refine Rc (pkA (b2 := w2) (Od.loc 4 123) (fun hb => by subst hb; exact Od.lc 8 127) (HW.out)) ?_
    refine Rc (mv (Od.lc 9 128)) ?_
    exact RgAll.nil
  intro v W10 e1 hΦ _
  replace S := S.mono e1
  have v10 : v 10 = .bool false := hΦ 10 (by decide)
  simp only [layL, Act.put, List.setIfInBounds_toArray, List.set_cons_zero, List.set_cons_succ, Nat.reduceAdd]
  rw [v10]
  clear v10 hΦ e1
  refine wpList_nil ?_
  go_upto_region 13 with (fail)
  refine rgs 19 [some 129, some 130, some 131, some 132, some 133, some 134, some 135, some 136, some 137, some 138, some 139, some 140, some 141, some 142, some 143, some 144, some 145, some 146, some 6] [IsJ (IsI 5 pl.num) (IsI 5 ((pl.den : Int))) (IsI 5 ph.num) (IsI 5 ((ph.den : Int))), IsJ (IsI 5 ul.num) (IsI 5 ((ul.den : Int))) (IsI 5 uh.num) (IsI 5 ((uh.den : Int))), IsV (.bool false), IsV (.bool false), IsV (.bool true), IsV (.bool true), IsV (.bool false), IsV (.bool false), IsV (.bool false), IsV (undef), IsV (undef), IsV (undef), IsV (.bool false), IsV (.bool true), IsV (.bool true), IsV (.bool true), IsV (.bool true), IsV (.bool true), IsV (.bool true)] [] ?_ ?_
  · refine Rc (ldJ S 13 12 11 10 (g8) 0 (Od.lit 8) ld_Iv rfl rfl rfl rfl) ?_
    refine Rc (ldJ S 9 8 7 6 (g9) 0 (Od.lit 9) ld_Iv rfl rfl rfl rfl) ?_
    refine Rc (cl2 (en Tryz.func59) (Od.lc (Φ := IsJ (IsI 5 pl.num) (IsI 5 ((pl.den : Int))) (IsI 5 ph.num) (IsI 5 ((ph.den : Int)))) 0 129) (Od.lc (Φ := IsJ (IsI 5 ul.num) (IsI 5 ((ul.den : Int))) (IsI 5 uh.num) (IsI 5 ((uh.den : Int)))) 1 130) (fun x0 x1 w' hE d0 d1 => Calls.mono (qInside_f d0 d1 (by decide)) fun _ _ h => RetB h HI.out)) ?_
    refine Rc (mv (Od.lit 15)) ?_
    refine Rc (bn (r := .bool true) (Od.loc 2 131) (Od.loc 3 132) (hr := fun w => by go_simp)) ?_
    refine Rc (mv (Od.lc 4 133)) ?_
    refine RcG 5 134 true (mv (Od.lit 15)) ?_
    refine RcG 5 134 true (mv (Od.lit 12)) ?_
    refine RcG 5 134 true (mv (Od.lc 7 136)) ?_
    refine RcN 8 137 false ?_
    refine RcN 8 137 false ?_
    refine RcN 8 137 false ?_
    refine RcG 5 134 true (pk (Od.loc 8 137) Od.con) ?_
    refine RcG 5 134 true (bn (r := .bool true) (Od.loc 6 135) (Od.loc 12 141) (hr := fun w => by go_simp)) ?_
    refine Rc (pk (Od.loc 5 134) (Od.lc 13 142)) ?_
    refine Rc (mv (Od.lc 14 143)) ?_
    refine RcG 15 144 true (mv (Od.lit 7)) ?_
    refine Rc (pk (Od.loc 15 144) (Od.lc 16 145)) ?_
    refine Rc (mv (Od.lc 17 146)) ?_
    exact RgAll.nil
  intro v W11 e1 hΦ _
  replace S := S.mono e1
  have v18 : v 18 = .bool true := hΦ 18 (by decide)
  simp only [layL, Act.put, List.setIfInBounds_toArray, List.set_cons_zero, List.set_cons_succ, Nat.reduceAdd]
  rw [v18]
  clear v18 hΦ e1
  refine wpList_nil ?_
  go_wp2_with fail
  exact bodyPost_ret (v := .bool true) (by simp [results, Tryz.results10, go_sem]) rfl (⟨_, rfl, S.ext, rfl⟩)
set_option maxRecDepth 100000 in
set_option maxHeartbeats 8000000 in
theorem Meets_m (w : World) (s1x s1y s1z s1t s2x s2y s2z s2t s3x s3y : Bool) (a1x a1y a1z a1t a2x a2y a2z a2t a3x a3y : Option Addr) (n1x c1x n1y c1y n1z c1z n1t c1t n2x c2x n2y c2y n2z c2z n2t c2t n3x c3x n3y c3y : Nat) (x1xn x1xd x1zn x1zd x2xn x2xd x2zn x2zd x3n x3d : List Nat) (h1x : Wd w a1x n1x c1x x1xn) (h1y : Wd w a1y n1y c1y x1xd) (h1z : Wd w a1z n1z c1z x1zn) (h1t : Wd w a1t n1t c1t x1zd) (h2x : Wd w a2x n2x c2x x2xn) (h2y : Wd w a2y n2y c2y x2xd) (h2z : Wd w a2z n2z c2z x2zn) (h2t : Wd w a2t n2t c2t x2zd) (h3x : Wd w a3x n3x c3x x3n) (h3y : Wd w a3y n3y c3y x3d) (ht : Tab w) (p0 p1 u0 u1 q pl ph ul uh : Rat) (c1 c2 c3 c4 : Int) (b1 b2 b3 e1 e2 f1 f2 w1 w2 w3 : Bool) (HP0 : Hid (madeQ s1x s1y x1xn x1xd 3 = p0)) (HP1 : Hid (madeQ s1z s1t x1zn x1zd 3 = p1)) (HU0 : Hid (madeQ s2x s2y x2xn x2xd 3 = u0)) (HU1 : Hid (madeQ s2z s2t x2zn x2zd 3 = u1)) (HQ : Hid (madeQ s3x s3y x3n x3d 3 = q)) (HA : Hid (leastR p0 [p1] = pl ∧ greatR p0 [p1] = ph)) (HB : Hid (leastR u0 [u1] = ul ∧ greatR u0 [u1] = uh)) (HOK : Hid (decide (0 < cmpQ (greatR pl [ul]) (leastR ph [uh])) = false)) (H1 : Hid (hasQ pl ph q = b1)) (H2 : Hid (hasQ ul uh q = b2)) (H3 : Hid ((b1 && b2) = b3)) (HC1 : Hid (cmpQ pl q = c1)) (HE1 : Hid (decide (c1 ≤ 0) = e1)) (HC2 : Hid (cmpQ q ph = c2)) (HE2 : Hid (decide (c2 ≤ 0) = e2)) (HE : Hid ((e1 && e2) = b1)) (HC3 : Hid (cmpQ ph ul = c3)) (HF1 : Hid (decide (c3 < 0) = f1)) (HC4 : Hid (cmpQ uh pl = c4)) (HF2 : Hid (decide (c4 < 0) = f2)) (HF : Hid ((f1 || f2) = false)) (HW1 : Hid (hasQ ul uh pl = w1)) (HW2 : Hid (hasQ ul uh ph = w2)) (HW : Hid ((w1 && w2) = w3)) (HI : Hid (insQ pl ph ul uh = w3)) (HL : Hid (hasQ (greatR pl [ul]) (leastR ph [uh]) q = b3)) (HS : Hid ((decide (greatR pl [ul] = pl) && decide (leastR ph [uh] = ph)) = w3)) :
    Calls Tryz.prog 10 #[.agg #[.bool s1x, .slice a1x n1x c1x, .bool s1y, .slice a1y n1y c1y, .bool s1z, .slice a1z n1z c1z, .bool s1t, .slice a1t n1t c1t], .agg #[.bool s2x, .slice a2x n2x c2x, .bool s2y, .slice a2y n2y c2y, .bool s2z, .slice a2z n2z c2z, .bool s2t, .slice a2t n2t c2t], .agg #[.bool s3x, .slice a3x n3x c3x, .bool s3y, .slice a3y n3y c3y]] w (Ret w (IsV (.bool true))) := by
  obtain ⟨W, hW, S⟩ : ∃ W, W = ((w.alloc (.cells #[.bool s1x, .slice a1x n1x c1x, .bool s1y, .slice a1y n1y c1y, .bool s1z, .slice a1z n1z c1z, .bool s1t, .slice a1t n1t c1t] 66)).alloc (.cells #[.bool s2x, .slice a2x n2x c2x, .bool s2y, .slice a2y n2y c2y, .bool s2z, .slice a2z n2z c2z, .bool s2t, .slice a2t n2t c2t] 66)).alloc (.cells #[.bool s3x, .slice a3x n3x c3x, .bool s3y, .slice a3y n3y c3y] 26) ∧ Sto w W [((w.heap.size + 1 + 1, 1), IsR s3y x3d), ((w.heap.size + 1 + 1, 0), IsR s3x x3n), ((w.heap.size + 1, 3), IsR s2t x2zd), ((w.heap.size + 1, 2), IsR s2z x2zn), ((w.heap.size + 1, 1), IsR s2y x2xd), ((w.heap.size + 1, 0), IsR s2x x2xn), ((w.heap.size, 3), IsR s1t x1zd), ((w.heap.size, 2), IsR s1z x1zn), ((w.heap.size, 1), IsR s1y x1xd), ((w.heap.size, 0), IsR s1x x1xn)] := ⟨_, rfl, ((((Sto.start w).new4 (w.heap.size) (by simp) s1x s1y s1z s1t a1x a1y a1z a1t n1x c1x n1y c1y n1z c1z n1t c1t 66 (IsR s1x x1xn) (IsR s1y x1xd) (IsR s1z x1zn) (IsR s1t x1zd) (IsR.gstb _ _) (⟨_, _, _, rfl, h1x⟩) (IsR.gstb _ _) (⟨_, _, _, rfl, h1y⟩) (IsR.gstb _ _) (⟨_, _, _, rfl, h1z⟩) (IsR.gstb _ _) (⟨_, _, _, rfl, h1t⟩)).new4 (w.heap.size + 1) (by simp) s2x s2y s2z s2t a2x a2y a2z a2t n2x c2x n2y c2y n2z c2z n2t c2t 66 (IsR s2x x2xn) (IsR s2y x2xd) (IsR s2z x2zn) (IsR s2t x2zd) (IsR.gstb _ _) (⟨_, _, _, rfl, (h2x.ext ((Ext.refl _).alloc _))⟩) (IsR.gstb _ _) (⟨_, _, _, rfl, (h2y.ext ((Ext.refl _).alloc _))⟩) (IsR.gstb _ _) (⟨_, _, _, rfl, (h2z.ext ((Ext.refl _).alloc _))⟩) (IsR.gstb _ _) (⟨_, _, _, rfl, (h2t.ext ((Ext.refl _).alloc _))⟩)).new2 (w.heap.size + 1 + 1) (by simp) s3x s3y a3x a3y n3x c3x n3y c3y 26 (IsR s3x x3n) (IsR s3y x3d) (IsR.gstb _ _) (⟨_, _, _, rfl, ((h3x.ext ((Ext.refl _).alloc _)).ext ((Ext.refl _).alloc _))⟩) (IsR.gstb _ _) (⟨_, _, _, rfl, ((h3y.ext ((Ext.refl _).alloc _)).ext ((Ext.refl _).alloc _))⟩))⟩
  clear h1x h1y h1z h1t h2x h2y h2z h2t h3x h3y
  go_enter Tryz.func10, Tryz.ntmps10
  go_upto_region 1 with (fail)
  rw [← hW]
  clear hW
  refine rgs 2 [some 16, some 7] [IsV (.bool true), IsV (.bool true)] [] ?_ ?_
  · refine Rc (cl0 (en Tryz.func12)  (fun w' hE => examplesQ_f _ (ht.ext (S.ext.trans hE)))) ?_
    refine Rc (mv (Od.lc 0 16)) ?_
    exact RgAll.nil
  intro v W1 e1 hΦ _
  replace S := S.mono e1
  have v1 : v 1 = .bool true := hΦ 1 (by decide)
  simp only [layL, Act.put, List.setIfInBounds_toArray, List.set_cons_zero, List.set_cons_succ, Nat.reduceAdd]
  rw [v1]
  clear v1 hΦ e1
  refine wpList_nil ?_
  go_upto_region 2 with (fail)
  refine rgs 2 [some 17, some 18] [IsV (.bool true), IsV (.bool false)] [] ?_ ?_
  · refine Rc (mv (Od.lit 7)) ?_
    refine Rc (nt (Od.loc 0 17)) ?_
    exact RgAll.nil
  intro v W2 e1 hΦ _
  replace S := S.mono e1
  have v1 : v 1 = .bool false := hΦ 1 (by decide)
  simp only [layL, Act.put, List.setIfInBounds_toArray, List.set_cons_zero, List.set_cons_succ, Nat.reduceAdd]
  rw [v1]
  clear v1 hΦ e1
  refine wpList_nil ?_
  go_upto_region 4 with (fail)
  have hl := hid S.lt; have hw := S.ext.size
  refine rgn 22 [some 19, some 20, some 21, some 22, some 23, some 24, some 25, some 26, some 27, some 28, some 29, some 30, some 31, some 32, some 33, some 34, some 8, some 9, some 10, none, none, none] [IsV (.pointer (some ⟨w.heap.size, 0, none⟩)), IsQ (IsR s1x x1xn) (IsR s1y x1xd), IsQ (IsI 5 p0.num) (IsI 5 ((p0.den : Int))), IsV (.pointer (some ⟨w.heap.size, 4, none⟩)), IsQ (IsR s1z x1zn) (IsR s1t x1zd), IsQ (IsI 5 p1.num) (IsI 5 ((p1.den : Int))), IsJ (IsI 5 pl.num) (IsI 5 ((pl.den : Int))) (IsI 5 ph.num) (IsI 5 ((ph.den : Int))), IsV (.pointer (some ⟨w.heap.size + 1, 0, none⟩)), IsQ (IsR s2x x2xn) (IsR s2y x2xd), IsQ (IsI 5 u0.num) (IsI 5 ((u0.den : Int))), IsV (.pointer (some ⟨w.heap.size + 1, 4, none⟩)), IsQ (IsR s2z x2zn) (IsR s2t x2zd), IsQ (IsI 5 u1.num) (IsI 5 ((u1.den : Int))), IsJ (IsI 5 ul.num) (IsI 5 ((ul.den : Int))) (IsI 5 uh.num) (IsI 5 ((uh.den : Int))), IsQ (IsR s3x x3n) (IsR s3y x3d), IsQ (IsI 5 q.num) (IsI 5 ((q.den : Int))), IsNw W2 4, IsNw W2 4, IsNw W2 2, TT, TT, TT] [16, 17, 18] [none, none, none, none, none, none, none, none, none, none, none, none, none, none, none, none, none, none, none, some (16, [IsI 5 pl.num, IsI 5 ((pl.den : Int)), IsI 5 ph.num, IsI 5 ((ph.den : Int))]), some (17, [IsI 5 ul.num, IsI 5 ((ul.den : Int)), IsI 5 uh.num, IsI 5 ((uh.den : Int))]), some (18, [IsI 5 q.num, IsI 5 ((q.den : Int))])] [none, none, none, none, none, none, none, none, none, none, none, none, none, none, none, none, none, none, none, some 16, some 17, some 18] 0 ?_ ?_
  · refine RcK (ix (ia_P2_0 (w.heap.size) 0) (Od.lit 3) Od.con) ?_
    refine RcK (ldQ S 9 8 (w.heap.size) 0 (Od.lc 0 19) ld_RawQ rfl rfl) ?_
    refine RcK (cl2 (en Tryz.func13) (Od.lc (Φ := IsQ (IsR s1x x1xn) (IsR s1y x1xd)) 1 20) Od.con (fun x0 x1 w' hE d0 d1 => by { obtain rfl : x1 = .int .i64 3 := d1; exact Calls.mono (rqMade_f d0 3 (by decide)) fun _ _ h => h.ratz HP0.out (Nat.le_refl _) })) ?_
    refine RcK (ix (ia_P2_1 (w.heap.size) 0) (Od.lit 3) Od.con) ?_
    refine RcK (ldQ S 7 6 (w.heap.size) 2 (Od.lc 3 22) ld_RawQ rfl rfl) ?_
    refine RcK (cl2 (en Tryz.func13) (Od.lc (Φ := IsQ (IsR s1z x1zn) (IsR s1t x1zd)) 4 23) Od.con (fun x0 x1 w' hE d0 d1 => by { obtain rfl : x1 = .int .i64 3 := d1; exact Calls.mono (rqMade_f d0 3 (by decide)) fun _ _ h => h.ratz HP1.out (Nat.le_refl _) })) ?_
    refine RcK (cl2 (en Tryz.func56) (Od.lc (Φ := IsQ (IsI 5 p0.num) (IsI 5 ((p0.den : Int)))) 2 21) (Od.lc (Φ := IsQ (IsI 5 p1.num) (IsI 5 ((p1.den : Int)))) 5 24) (fun x0 x1 w' hE d0 d1 => Calls.mono (rqSpan_f d0 d1 (by decide)) fun _ _ h => h.iv HA.out.1 HA.out.2)) ?_
    refine RcK (ix (ia_P2_0 (w.heap.size + 1) 0) (Od.lit 4) Od.con) ?_
    refine RcK (ldQ S 5 4 (w.heap.size + 1) 0 (Od.lc 7 26) ld_RawQ rfl rfl) ?_
    refine RcK (cl2 (en Tryz.func13) (Od.lc (Φ := IsQ (IsR s2x x2xn) (IsR s2y x2xd)) 8 27) Od.con (fun x0 x1 w' hE d0 d1 => by { obtain rfl : x1 = .int .i64 3 := d1; exact Calls.mono (rqMade_f d0 3 (by decide)) fun _ _ h => h.ratz HU0.out (Nat.le_refl _) })) ?_
    refine RcK (ix (ia_P2_1 (w.heap.size + 1) 0) (Od.lit 4) Od.con) ?_
    refine RcK (ldQ S 3 2 (w.heap.size + 1) 2 (Od.lc 10 29) ld_RawQ rfl rfl) ?_
    refine RcK (cl2 (en Tryz.func13) (Od.lc (Φ := IsQ (IsR s2z x2zn) (IsR s2t x2zd)) 11 30) Od.con (fun x0 x1 w' hE d0 d1 => by { obtain rfl : x1 = .int .i64 3 := d1; exact Calls.mono (rqMade_f d0 3 (by decide)) fun _ _ h => h.ratz HU1.out (Nat.le_refl _) })) ?_
    refine RcK (cl2 (en Tryz.func56) (Od.lc (Φ := IsQ (IsI 5 u0.num) (IsI 5 ((u0.den : Int)))) 9 28) (Od.lc (Φ := IsQ (IsI 5 u1.num) (IsI 5 ((u1.den : Int)))) 12 31) (fun x0 x1 w' hE d0 d1 => Calls.mono (rqSpan_f d0 d1 (by decide)) fun _ _ h => h.iv HB.out.1 HB.out.2)) ?_
    refine RcK (ldQ S 1 0 (w.heap.size + 1 + 1) 0 (Od.lit 5) ld_RawQ rfl rfl) ?_
    refine RcK (cl2 (en Tryz.func13) (Od.lc (Φ := IsQ (IsR s3x x3n) (IsR s3y x3d)) 14 33) Od.con (fun x0 x1 w' hE d0 d1 => by { obtain rfl : x1 = .int .i64 3 := d1; exact Calls.mono (rqMade_f d0 3 (by decide)) fun _ _ h => h.ratz HQ.out (Nat.le_refl _) })) ?_
    refine RcK (alN al_Iv) ?_
    refine RcK (alN al_Iv) ?_
    refine RcK (alN al_Rat) ?_
    refine RcS 16 (sJ st_Iv (Od.lc (Φ := IsJ (IsI 5 pl.num) (IsI 5 ((pl.den : Int))) (IsI 5 ph.num) (IsI 5 ((ph.den : Int)))) 6 25) (IsI.gstb _ _) (IsI.gstb _ _) (IsI.gstb _ _) (IsI.gstb _ _)) ?_
    refine RcS 17 (sJ st_Iv (Od.lc (Φ := IsJ (IsI 5 ul.num) (IsI 5 ((ul.den : Int))) (IsI 5 uh.num) (IsI 5 ((uh.den : Int)))) 13 32) (IsI.gstb _ _) (IsI.gstb _ _) (IsI.gstb _ _) (IsI.gstb _ _)) ?_
    refine RcS 18 (sQ st_Rat (Od.lc (Φ := IsQ (IsI 5 q.num) (IsI 5 ((q.den : Int)))) 15 34) (IsI.gstb _ _) (IsI.gstb _ _)) ?_
    exact RgAllN.nil
  intro v W3 e1 hΦ hS hne
  replace S := S.mono e1
  obtain ⟨g8, v16, q1, S2⟩ := S.addJ (hΦ 16 (by decide) rfl) (hS 19 (by decide) _ _ rfl) hw (IsI.gstb _ _) (IsI.gstb _ _) (IsI.gstb _ _) (IsI.gstb _ _)
  replace S := S2 (ApartO.old hl.out q1); clear S2
  obtain ⟨g9, v17, q2, S2⟩ := S.addJ (hΦ 17 (by decide) rfl) (hS 20 (by decide) _ _ rfl) hw (IsI.gstb _ _) (IsI.gstb _ _) (IsI.gstb _ _) (IsI.gstb _ _)
  replace S := S2 (ApartO.cons (fun h => hne 16 17 (by decide) (by decide) (by decide) (by decide) (by decide) rfl rfl (by rw [v16, v17, h])) (ApartO.cons (fun h => hne 16 17 (by decide) (by decide) (by decide) (by decide) (by decide) rfl rfl (by rw [v16, v17, h])) (ApartO.cons (fun h => hne 16 17 (by decide) (by decide) (by decide) (by decide) (by decide) rfl rfl (by rw [v16, v17, h])) (ApartO.cons (fun h => hne 16 17 (by decide) (by decide) (by decide) (by decide) (by decide) rfl rfl (by rw [v16, v17, h])) (ApartO.old hl.out q2))))); clear S2
  obtain ⟨g10, v18, q3, S2⟩ := S.addQ (hΦ 18 (by decide) rfl) (hS 21 (by decide) _ _ rfl) hw (IsI.gstb _ _) (IsI.gstb _ _)
  replace S := S2 (ApartO.cons (fun h => hne 17 18 (by decide) (by decide) (by decide) (by decide) (by decide) rfl rfl (by rw [v17, v18, h])) (ApartO.cons (fun h => hne 17 18 (by decide) (by decide) (by decide) (by decide) (by decide) rfl rfl (by rw [v17, v18, h])) (ApartO.cons (fun h => hne 17 18 (by decide) (by decide) (by decide) (by decide) (by decide) rfl rfl (by rw [v17, v18, h])) (ApartO.cons (fun h => hne 17 18 (by decide) (by decide) (by decide) (by decide) (by decide) rfl rfl (by rw [v17, v18, h])) (ApartO.cons (fun h => hne 16 18 (by decide) (by decide) (by decide) (by decide) (by decide) rfl rfl (by rw [v16, v18, h])) (ApartO.cons (fun h => hne 16 18 (by decide) (by decide) (by decide) (by decide) (by decide) rfl rfl (by rw [v16, v18, h])) (ApartO.cons (fun h => hne 16 18 (by decide) (by decide) (by decide) (by decide) (by decide) rfl rfl (by rw [v16, v18, h])) (ApartO.cons (fun h => hne 16 18 (by decide) (by decide) (by decide) (by decide) (by decide) rfl rfl (by rw [v16, v18, h])) (ApartO.old hl.out q3))))))))); clear S2
  simp only [layL, Act.put, List.setIfInBounds_toArray, List.set_cons_zero, List.set_cons_succ, Nat.reduceAdd]
  rw [v16, v17, v18]
  clear hl hw hne v16 v17 v18 hΦ hS e1
  refine wpAny_done (by kernel_rfl) ?_ _
  go_upto_region 5 with (fail)
  have hl := hid S.lt; have hw := S.ext.size
  refine rgs 7 [some 36, some 37, some 38, some 35, some 39, some 40, some 11] [IsJ (IsI 5 pl.num) (IsI 5 ((pl.den : Int))) (IsI 5 ph.num) (IsI 5 ((ph.den : Int))), IsJ (IsI 5 ul.num) (IsI 5 ((ul.den : Int))) (IsI 5 uh.num) (IsI 5 ((uh.den : Int))), IsT2 (IsJ (IsI 5 ((greatR pl [ul]).num)) (IsI 5 (((greatR pl [ul]).den : Int))) (IsI 5 ((leastR ph [uh]).num)) (IsI 5 (((leastR ph [uh]).den : Int)))) (IsV (.bool true)), IsT2 (IsJ (IsI 5 ((greatR pl [ul]).num)) (IsI 5 (((greatR pl [ul]).den : Int))) (IsI 5 ((leastR ph [uh]).num)) (IsI 5 (((leastR ph [uh]).den : Int)))) (IsV (.bool true)), IsJ (IsI 5 ((greatR pl [ul]).num)) (IsI 5 (((greatR pl [ul]).den : Int))) (IsI 5 ((leastR ph [uh]).num)) (IsI 5 (((leastR ph [uh]).den : Int))), IsV (.bool true), IsBo W3 4] [6] ?_ ?_
  · refine Rc (ldJ S 9 8 7 6 (g8) 0 (Od.lit 8) ld_Iv rfl rfl rfl rfl) ?_
    refine Rc (ldJ S 5 4 3 2 (g9) 0 (Od.lit 9) ld_Iv rfl rfl rfl rfl) ?_
    refine Rc (cl2 (en Tryz.func57) (Od.lc (Φ := IsJ (IsI 5 pl.num) (IsI 5 ((pl.den : Int))) (IsI 5 ph.num) (IsI 5 ((ph.den : Int)))) 0 36) (Od.lc (Φ := IsJ (IsI 5 ul.num) (IsI 5 ((ul.den : Int))) (IsI 5 uh.num) (IsI 5 ((uh.den : Int)))) 1 37) (fun x0 x1 w' hE d0 d1 => qMeet_m d0 d1 (by decide) HOK.out)) ?_
    refine Rc (mv (Od.lc 2 38)) ?_
    refine Rc (ex (Od.loc 3 35) t20) ?_
    refine Rc (ex (Od.loc 3 35) t21) ?_
    refine Rc (al al_Iv) ?_
    exact RgAll.nil
  intro v W4 e1 hΦ _
  replace S := S.mono e1
  have h39 := hΦ 4 (by decide)
  have v5 : v 5 = .bool true := hΦ 5 (by decide)
  obtain ⟨g11, v6, q5, b4, _⟩ := (hΦ 6 (by decide) : IsBo W3 4 (v 6) W4)
  replace S := S.addN 4 (ApartO.old hl.out q5) (Nat.le_trans hw q5) b4
  simp only [newF, List.cons_append, List.nil_append] at S
  simp only [layL, Act.put, List.setIfInBounds_toArray, List.set_cons_zero, List.set_cons_succ, Nat.reduceAdd]
  rw [v5, v6]
  clear b4 hl hw v5 v6 hΦ e1
  try simp only [List.drop_succ_cons, List.drop_zero]
  (with_reducible refine stL ?_ (by rfl)); intro KK hKK; refine stJ S 3 2 1 0 (g11) 0 h39 (IsI.gstb _ _) (IsI.gstb _ _) (IsI.gstb _ _) (IsI.gstb _ _) st_Iv (fun W5 S2 G2 => hKK _ _ ?_) rfl rfl rfl rfl
  replace S := S2; clear S2 G2 hKK KK h39
  simp only [List.set_cons_zero, List.set_cons_succ] at S
  refine wpList_step fun K hK => ?_; go_simp; refine hK _ _ ?_; clear hK K
  refine wpList_nil ?_
  go_upto_region 6 with (fail)
  refine rgs 9 [some 41, some 42, some 43, some 44, some 45, some 46, some 47, some 48, some 13] [IsJ (IsI 5 pl.num) (IsI 5 ((pl.den : Int))) (IsI 5 ph.num) (IsI 5 ((ph.den : Int))), IsQ (IsI 5 q.num) (IsI 5 ((q.den : Int))), IsV (.bool b1), IsV (.bool b1), IsIf (b1) (IsJ (IsI 5 ul.num) (IsI 5 ((ul.den : Int))) (IsI 5 uh.num) (IsI 5 ((uh.den : Int)))), IsIf (b1) (IsQ (IsI 5 q.num) (IsI 5 ((q.den : Int)))), IsIf (b1) (IsV (.bool b2)), IsV (.bool b3), IsV (.bool b3)] [] ?_ ?_ (hst := by repeat' (first | exact trivial | apply IsIf.stb | exact IsV.stb _ | exact IsI.stb _ _ | apply IsJ.stb | apply IsQ.stb | apply And.intro))
  · refine Rc (ldJ S 13 12 11 10 (g8) 0 (Od.lit 8) ld_Iv rfl rfl rfl rfl) ?_
    refine Rc (ldQ S 5 4 (g10) 0 (Od.lit 10) ld_Rat rfl rfl) ?_
    refine Rc (cl2 (en Tryz.func58) (Od.lc (Φ := IsJ (IsI 5 pl.num) (IsI 5 ((pl.den : Int))) (IsI 5 ph.num) (IsI 5 ((ph.den : Int)))) 0 41) (Od.lc (Φ := IsQ (IsI 5 q.num) (IsI 5 ((q.den : Int)))) 1 42) (fun x0 x1 w' hE d0 d1 => Calls.mono (qHas_f d0 d1 (by decide)) fun _ _ h => RetB h H1.out)) ?_
    refine Rc (mv (Od.lc 2 43)) ?_
    refine RcB 3 44 b1 true (fun hb => by subst hb; exact ldJ S 9 8 7 6 (g9) 0 (Od.lit 9) ld_Iv rfl rfl rfl rfl) ?_
    refine RcB 3 44 b1 true (fun hb => by subst hb; exact ldQ S 5 4 (g10) 0 (Od.lit 10) ld_Rat rfl rfl) ?_
    refine RcB 3 44 b1 true (fun hb => by subst hb; exact cl2 (en Tryz.func58) (Od.lc (Φ := IsJ (IsI 5 ul.num) (IsI 5 ((ul.den : Int))) (IsI 5 uh.num) (IsI 5 ((uh.den : Int)))) 4 45) (Od.lc (Φ := IsQ (IsI 5 q.num) (IsI 5 ((q.den : Int)))) 5 46) (fun x0 x1 w' hE d0 d1 => Calls.mono (qHas_f d0 d1 (by decide)) fun _ _ h => RetB h H2.out)) ?_
    refine Rc (pkA (b2 := b2) (Od.loc 3 44) (fun hb => by subst hb; exact Od.lc 6 47) (H3.out)) ?_
    refine Rc (mv (Od.lc 7 48)) ?_
    exact RgAll.nil
  intro v W6 e1 hΦ _
  replace S := S.mono e1
  have v8 : v 8 = .bool b3 := hΦ 8 (by decide)
  simp only [layL, Act.put, List.setIfInBounds_toArray, List.set_cons_zero, List.set_cons_succ, Nat.reduceAdd]
  rw [v8]
  clear v8 hΦ e1
  refine wpList_nil ?_
  go_upto_region 7 with (fail)
  refine rg 23 [some 49, some 50, some 51, some 52, some 53, some 54, some 55, some 56, some 57, some 58, some 59, some 60, some 61, some 62, some 63, some 64, some 65, some 66, some 67, some 68, some 69, some 70, some 71] [IsJ (IsI 5 pl.num) (IsI 5 ((pl.den : Int))) (IsI 5 ph.num) (IsI 5 ((ph.den : Int))), IsQ (IsI 5 q.num) (IsI 5 ((q.den : Int))), IsV (.bool b1), IsV (.pointer (some ⟨g8, 0, none⟩)), IsQ (IsI 5 pl.num) (IsI 5 ((pl.den : Int))), IsQ (IsI 5 q.num) (IsI 5 ((q.den : Int))), IsV (.int .i64 c1), IsV (.bool e1), IsV (.bool e1), IsIf (e1) (IsQ (IsI 5 q.num) (IsI 5 ((q.den : Int)))), IsIf (e1) (IsV (.pointer (some ⟨g8, 4, none⟩))), IsIf (e1) (IsQ (IsI 5 ph.num) (IsI 5 ((ph.den : Int)))), IsIf (e1) (IsV (.int .i64 c2)), IsIf (e1) (IsV (.bool e2)), IsV (.bool b1), IsV (.bool false), IsV (.bool false), IsV (.bool b3), IsV (.bool b3), IsIf (b3) (IsV (.bool true)), IsIf (b3) (IsV (.bool false)), IsV (.bool false), IsV (.bool false)] [] 0 ?_ ?_ (hst := by repeat' (first | exact trivial | apply IsIf.stb | exact IsV.stb _ | exact IsI.stb _ _ | apply IsJ.stb | apply IsQ.stb | apply And.intro))
  · refine Rc (ldJ S 13 12 11 10 (g8) 0 (Od.lit 8) ld_Iv rfl rfl rfl rfl) ?_
    refine Rc (ldQ S 5 4 (g10) 0 (Od.lit 10) ld_Rat rfl rfl) ?_
    refine Rc (cl2 (en Tryz.func58) (Od.lc (Φ := IsJ (IsI 5 pl.num) (IsI 5 ((pl.den : Int))) (IsI 5 ph.num) (IsI 5 ((ph.den : Int)))) 0 49) (Od.lc (Φ := IsQ (IsI 5 q.num) (IsI 5 ((q.den : Int)))) 1 50) (fun x0 x1 w' hE d0 d1 => Calls.mono (qHas_f d0 d1 (by decide)) fun _ _ h => RetB h H1.out)) ?_
    refine Rc (fa (fa_Iv0 (g8) 0) (Od.lit 8)) ?_
    refine Rc (ldQ S 13 12 (g8) 0 (Od.lc 3 52) ld_Rat rfl rfl) ?_
    refine Rc (ldQ S 5 4 (g10) 0 (Od.lit 10) ld_Rat rfl rfl) ?_
    refine Rc (cl2 (en Tryz.func28) (Od.lc (Φ := IsQ (IsI 5 pl.num) (IsI 5 ((pl.den : Int)))) 4 53) (Od.lc (Φ := IsQ (IsI 5 q.num) (IsI 5 ((q.den : Int)))) 5 54) (fun x0 x1 w' hE d0 d1 => Calls.mono (rqCmp_f d0 d1 (by decide) (by decide)) fun _ _ h => h.int HC1.out)) ?_
    refine Rc (bn (r := .bool e1) (Od.loc 6 55) Od.con (hr := fun w => by have hx9 := HE1.out; go_simp)) ?_
    refine Rc (mv (Od.lc 7 56)) ?_
    refine RcB 8 57 e1 true (fun hb => by subst hb; exact ldQ S 5 4 (g10) 0 (Od.lit 10) ld_Rat rfl rfl) ?_
    refine RcB 8 57 e1 true (fun hb => by subst hb; exact fa (fa_Iv1 (g8) 0) (Od.lit 8)) ?_
    refine RcB 8 57 e1 true (fun hb => by subst hb; exact ldQ S 11 10 (g8) 2 (Od.lc 10 59) ld_Rat rfl rfl) ?_
    refine RcB 8 57 e1 true (fun hb => by subst hb; exact cl2 (en Tryz.func28) (Od.lc (Φ := IsQ (IsI 5 q.num) (IsI 5 ((q.den : Int)))) 9 58) (Od.lc (Φ := IsQ (IsI 5 ph.num) (IsI 5 ((ph.den : Int)))) 11 60) (fun x0 x1 w' hE d0 d1 => Calls.mono (rqCmp_f d0 d1 (by decide) (by decide)) fun _ _ h => h.int HC2.out)) ?_
    refine RcB 8 57 e1 true (fun hb => by subst hb; exact bn (r := .bool e2) (Od.loc 12 61) Od.con (hr := fun w => by have hx9 := HE2.out; go_simp)) ?_
    refine Rc (pkA (b2 := e2) (Od.loc 8 57) (fun hb => by subst hb; exact Od.lc 13 62) (HE.out)) ?_
    refine Rc (bn (r := .bool false) (Od.loc 2 51) (Od.loc 14 63) (hr := fun w => by go_simp)) ?_
    refine Rc (mv (Od.lc 15 64)) ?_
    refine RcG 16 65 false (mv (Od.lit 13)) ?_
    refine RcG 16 65 false (mv (Od.lc 17 66)) ?_
    refine RcB 18 67 b3 true (fun hb => by subst hb; exact mv (Od.lit 12)) ?_
    refine RcB 18 67 b3 true (fun hb => by subst hb; exact nt (Od.loc 19 68)) ?_
    refine RcG 16 65 false (pkA (b2 := false) (Od.loc 18 67) (fun hb => by subst hb; exact Od.lc 20 69) (Bool.and_false _)) ?_
    refine Rc (pk (Od.loc 16 65) (Od.lc 21 70)) ?_
    exact RgAll.nil
  intro v W7 e1 hΦ _
  replace S := S.mono e1
  have v22 : v 22 = .bool false := hΦ 22 (by decide)
  simp only [layL, Act.put, List.setIfInBounds_toArray, List.set_cons_zero, List.set_cons_succ, Nat.reduceAdd]
  rw [v22]
  clear v22 hΦ e1
  refine wpAny_done (by kernel_rfl) ?_ _
  go_upto_region 9 with (fail)
  refine rgs 15 [some 72, some 73, some 74, some 75, some 76, some 77, some 78, some 79, some 80, some 81, some 82, some 83, some 84, some 85, some 14] [IsV (.pointer (some ⟨g8, 4, none⟩)), IsQ (IsI 5 ph.num) (IsI 5 ((ph.den : Int))), IsV (.pointer (some ⟨g9, 0, none⟩)), IsQ (IsI 5 ul.num) (IsI 5 ((ul.den : Int))), IsV (.int .i64 c3), IsV (.bool f1), IsV (.bool f1), IsIf (!f1) (IsV (.pointer (some ⟨g9, 4, none⟩))), IsIf (!f1) (IsQ (IsI 5 uh.num) (IsI 5 ((uh.den : Int)))), IsIf (!f1) (IsV (.pointer (some ⟨g8, 0, none⟩))), IsIf (!f1) (IsQ (IsI 5 pl.num) (IsI 5 ((pl.den : Int)))), IsIf (!f1) (IsV (.int .i64 c4)), IsIf (!f1) (IsV (.bool f2)), IsV (.bool false), IsV (.bool false)] [] ?_ ?_ (hst := by repeat' (first | exact trivial | apply IsIf.stb | exact IsV.stb _ | exact IsI.stb _ _ | apply IsJ.stb | apply IsQ.stb | apply And.intro))
  · refine Rc (fa (fa_Iv1 (g8) 0) (Od.lit 8)) ?_
    refine Rc (ldQ S 11 10 (g8) 2 (Od.lc 0 72) ld_Rat rfl rfl) ?_
    refine Rc (fa (fa_Iv0 (g9) 0) (Od.lit 9)) ?_
    refine Rc (ldQ S 9 8 (g9) 0 (Od.lc 2 74) ld_Rat rfl rfl) ?_
    refine Rc (cl2 (en Tryz.func28) (Od.lc (Φ := IsQ (IsI 5 ph.num) (IsI 5 ((ph.den : Int)))) 1 73) (Od.lc (Φ := IsQ (IsI 5 ul.num) (IsI 5 ((ul.den : Int)))) 3 75) (fun x0 x1 w' hE d0 d1 => Calls.mono (rqCmp_f d0 d1 (by decide) (by decide)) fun _ _ h => h.int HC3.out)) ?_
    refine Rc (bn (r := .bool f1) (Od.loc 4 76) Od.con (hr := fun w => by have hx9 := HF1.out; go_simp)) ?_
    refine Rc (mv (Od.lc 5 77)) ?_
    refine RcB 6 78 f1 false (fun hb => by subst hb; exact fa (fa_Iv1 (g9) 0) (Od.lit 9)) ?_
    refine RcB 6 78 f1 false (fun hb => by subst hb; exact ldQ S 7 6 (g9) 2 (Od.lc 7 79) ld_Rat rfl rfl) ?_
    refine RcB 6 78 f1 false (fun hb => by subst hb; exact fa (fa_Iv0 (g8) 0) (Od.lit 8)) ?_
    refine RcB 6 78 f1 false (fun hb => by subst hb; exact ldQ S 13 12 (g8) 0 (Od.lc 9 81) ld_Rat rfl rfl) ?_
    refine RcB 6 78 f1 false (fun hb => by subst hb; exact cl2 (en Tryz.func28) (Od.lc (Φ := IsQ (IsI 5 uh.num) (IsI 5 ((uh.den : Int)))) 8 80) (Od.lc (Φ := IsQ (IsI 5 pl.num) (IsI 5 ((pl.den : Int)))) 10 82) (fun x0 x1 w' hE d0 d1 => Calls.mono (rqCmp_f d0 d1 (by decide) (by decide)) fun _ _ h => h.int HC4.out)) ?_
    refine RcB 6 78 f1 false (fun hb => by subst hb; exact bn (r := .bool f2) (Od.loc 11 83) Od.con (hr := fun w => by have hx9 := HF2.out; go_simp)) ?_
    refine Rc (pkO (b2 := f2) (Od.loc 6 78) (fun hb => by subst hb; exact Od.lc 12 84) (HF.out)) ?_
    refine Rc (mv (Od.lc 13 85)) ?_
    exact RgAll.nil
  intro v W8 e1 hΦ _
  replace S := S.mono e1
  have v14 : v 14 = .bool false := hΦ 14 (by decide)
  simp only [layL, Act.put, List.setIfInBounds_toArray, List.set_cons_zero, List.set_cons_succ, Nat.reduceAdd]
  rw [v14]
  clear v14 hΦ e1
  refine wpList_nil ?_
  go_upto_region 10 with (fail)
  refine rgs 33 [some 86, some 87, some 88, some 89, some 90, some 91, some 92, some 93, some 94, some 95, some 96, some 97, some 98, some 99, some 100, some 101, some 102, some 103, some 104, some 105, some 106, some 107, some 108, some 109, some 110, some 111, some 112, some 113, some 114, some 115, some 116, some 117, some 118] [IsV (.bool true), IsV (.bool false), IsV (.bool false), IsV (.bool false), IsV (.bool true), IsV (.bool true), IsJ (IsI 5 ((greatR pl [ul]).num)) (IsI 5 (((greatR pl [ul]).den : Int))) (IsI 5 ((leastR ph [uh]).num)) (IsI 5 (((leastR ph [uh]).den : Int))), IsQ (IsI 5 q.num) (IsI 5 ((q.den : Int))), IsV (.bool b3), IsV (.bool b3), IsV (.bool false), IsV (.bool false), IsV (.bool false), IsV (.bool false), IsV (.bool true), IsV (.bool false), IsV (.bool false), IsV (undef), IsV (undef), IsV (undef), IsV (undef), IsV (undef), IsV (undef), IsV (undef), IsV (undef), IsV (undef), IsV (undef), IsV (undef), IsV (undef), IsV (undef), IsV (undef), IsV (.bool false), IsV (.bool false)] [] ?_ ?_
  · refine Rc (mv (Od.lit 12)) ?_
    refine Rc (mv (Od.lit 14)) ?_
    refine Rc (bn (r := .bool false) (Od.loc 0 86) (Od.loc 1 87) (hr := fun w => by go_simp)) ?_
    refine Rc (mv (Od.lc 2 88)) ?_
    refine RcG 3 89 false (mv (Od.lit 12)) ?_
    refine RcG 3 89 false (mv (Od.lc 4 90)) ?_
    refine RcG 5 91 true (ldJ S 3 2 1 0 (g11) 0 (Od.lit 11) ld_Iv rfl rfl rfl rfl) ?_
    refine RcG 5 91 true (ldQ S 5 4 (g10) 0 (Od.lit 10) ld_Rat rfl rfl) ?_
    refine RcG 5 91 true (cl2 (en Tryz.func58) (Od.lc (Φ := IsJ (IsI 5 ((greatR pl [ul]).num)) (IsI 5 (((greatR pl [ul]).den : Int))) (IsI 5 ((leastR ph [uh]).num)) (IsI 5 (((leastR ph [uh]).den : Int)))) 6 92) (Od.lc (Φ := IsQ (IsI 5 q.num) (IsI 5 ((q.den : Int)))) 7 93) (fun x0 x1 w' hE d0 d1 => Calls.mono (qHas_f d0 d1 (by decide)) fun _ _ h => RetB h HL.out)) ?_
    refine RcG 5 91 true (mv (Od.lit 13)) ?_
    refine RcG 5 91 true (bn (r := .bool false) (Od.loc 8 94) (Od.loc 9 95) (hr := fun w => by go_simp)) ?_
    refine RcG 3 89 false (pk (Od.loc 5 91) (Od.lc 10 96)) ?_
    refine Rc (pk (Od.loc 3 89) (Od.lc 11 97)) ?_
    refine Rc (mv (Od.lc 12 98)) ?_
    refine RcG 13 99 false (mv (Od.lit 12)) ?_
    refine RcG 13 99 false (nt (Od.loc 14 100)) ?_
    refine RcG 13 99 false (mv (Od.lc 15 101)) ?_
    refine RcN 16 102 false ?_
    refine RcN 16 102 false ?_
    refine RcN 16 102 false ?_
    refine RcN 16 102 false ?_
    refine RcN 16 102 false ?_
    refine RcN 16 102 false ?_
    refine RcN 16 102 false ?_
    refine RcU 23 109 false ?_
    refine RcU 23 109 false ?_
    refine RcU 23 109 false ?_
    refine RcU 23 109 false ?_
    refine RcU 23 109 false ?_
    refine RcU 23 109 false ?_
    refine RcN 16 102 false ?_
    refine RcG 13 99 false (pk (Od.loc 16 102) Od.con) ?_
    refine Rc (pk (Od.loc 13 99) (Od.lc 31 117)) ?_
    exact RgAll.nil
  intro v W9 e1 hΦ _
  replace S := S.mono e1
  have v32 : v 32 = .bool false := hΦ 32 (by decide)
  simp only [layL, Act.put, List.setIfInBounds_toArray, List.set_cons_zero, List.set_cons_succ, Nat.reduceAdd]
  rw [v32]
  clear v32 hΦ e1
  refine wpList_nil ?_
  go_upto_region 12 with (fail)
  refine rgs 11 [some 119, some 120, some 121, some 122, some 123, some 124, some 125, some 126, some 127, some 128, some 15] [IsJ (IsI 5 ul.num) (IsI 5 ((ul.den : Int))) (IsI 5 uh.num) (IsI 5 ((uh.den : Int))), IsV (.pointer (some ⟨g8, 0, none⟩)), IsQ (IsI 5 pl.num) (IsI 5 ((pl.den : Int))), IsV (.bool w1), IsV (.bool w1), IsIf (w1) (IsJ (IsI 5 ul.num) (IsI 5 ((ul.den : Int))) (IsI 5 uh.num) (IsI 5 ((uh.den : Int)))), IsIf (w1) (IsV (.pointer (some ⟨g8, 4, none⟩))), IsIf (w1) (IsQ (IsI 5 ph.num) (IsI 5 ((ph.den : Int)))), IsIf (w1) (IsV (.bool w2)), IsV (.bool w3), IsV (.bool w3)] [] ?_ ?_ (hst := by repeat' (first | exact trivial | apply IsIf.stb | exact IsV.stb _ | exact IsI.stb _ _ | apply IsJ.stb | apply IsQ.stb | apply And.intro))
  · refine Rc (ldJ S 9 8 7 6 (g9) 0 (Od.lit 9) ld_Iv rfl rfl rfl rfl) ?_
    refine Rc (fa (fa_Iv0 (g8) 0) (Od.lit 8)) ?_
    refine Rc (ldQ S 13 12 (g8) 0 (Od.lc 1 120) ld_Rat rfl rfl) ?_
    refine Rc (cl2 (en Tryz.func58) (Od.lc (Φ := IsJ (IsI 5 ul.num) (IsI 5 ((ul.den : Int))) (IsI 5 uh.num) (IsI 5 ((uh.den : Int)))) 0 119) (Od.lc (Φ := IsQ (IsI 5 pl.num) (IsI 5 ((pl.den : Int)))) 2 121) (fun x0 x1 w' hE d0 d1 => Calls.mono (qHas_f d0 d1 (by decide)) fun _ _ h => RetB h HW1.out)) ?_
    refine Rc (mv (Od.lc 3 122)) ?_
    refine RcB 4 123 w1 true (fun hb => by subst hb; exact ldJ S 9 8 7 6 (g9) 0 (Od.lit 9) ld_Iv rfl rfl rfl rfl) ?_
    refine RcB 4 123 w1 true (fun hb => by subst hb; exact fa (fa_Iv1 (g8) 0) (Od.lit 8)) ?_
    refine RcB 4 123 w1 true (fun hb => by subst hb; exact ldQ S 11 10 (g8) 2 (Od.lc 6 125) ld_Rat rfl rfl) ?_
    refine RcB 4 123 w1 true (fun hb => by subst hb; exact cl2 (en Tryz.func58) (Od.lc (Φ := IsJ (IsI 5 ul.num) (IsI 5 ((ul.den : Int))) (IsI 5 uh.num) (IsI 5 ((uh.den : Int)))) 5 124) (Od.lc (Φ := IsQ (IsI 5 ph.num) (IsI 5 ((ph.den : Int)))) 7 126) (fun x0 x1 w' hE d0 d1 => Calls.mono (qHas_f d0 d1 (by decide)) fun _ _ h => RetB h HW2.out)) ?_
    refine Rc (pkA (b2 := w2) (Od.loc 4 123) (fun hb => by subst hb; exact Od.lc 8 127) (HW.out)) ?_
    refine Rc (mv (Od.lc 9 128)) ?_
    exact RgAll.nil
  intro v W10 e1 hΦ _
  replace S := S.mono e1
  have v10 : v 10 = .bool w3 := hΦ 10 (by decide)
  simp only [layL, Act.put, List.setIfInBounds_toArray, List.set_cons_zero, List.set_cons_succ, Nat.reduceAdd]
  rw [v10]
  clear v10 hΦ e1
  refine wpList_nil ?_
  go_upto_region 13 with (fail)
  refine rgs 19 [some 129, some 130, some 131, some 132, some 133, some 134, some 135, some 136, some 137, some 138, some 139, some 140, some 141, some 142, some 143, some 144, some 145, some 146, some 6] [IsJ (IsI 5 pl.num) (IsI 5 ((pl.den : Int))) (IsI 5 ph.num) (IsI 5 ((ph.den : Int))), IsJ (IsI 5 ul.num) (IsI 5 ((ul.den : Int))) (IsI 5 uh.num) (IsI 5 ((uh.den : Int))), IsV (.bool w3), IsV (.bool w3), IsV (.bool true), IsV (.bool true), IsV (.bool w3), IsV (.bool true), IsV (.bool true), IsJ (IsI 5 ((greatR pl [ul]).num)) (IsI 5 (((greatR pl [ul]).den : Int))) (IsI 5 ((leastR ph [uh]).num)) (IsI 5 (((leastR ph [uh]).den : Int))), IsJ (IsI 5 pl.num) (IsI 5 ((pl.den : Int))) (IsI 5 ph.num) (IsI 5 ((ph.den : Int))), IsV (.bool w3), IsV (.bool w3), IsV (.bool true), IsV (.bool true), IsV (.bool true), IsV (.bool true), IsV (.bool true), IsV (.bool true)] [] ?_ ?_
  · refine Rc (ldJ S 13 12 11 10 (g8) 0 (Od.lit 8) ld_Iv rfl rfl rfl rfl) ?_
    refine Rc (ldJ S 9 8 7 6 (g9) 0 (Od.lit 9) ld_Iv rfl rfl rfl rfl) ?_
    refine Rc (cl2 (en Tryz.func59) (Od.lc (Φ := IsJ (IsI 5 pl.num) (IsI 5 ((pl.den : Int))) (IsI 5 ph.num) (IsI 5 ((ph.den : Int)))) 0 129) (Od.lc (Φ := IsJ (IsI 5 ul.num) (IsI 5 ((ul.den : Int))) (IsI 5 uh.num) (IsI 5 ((uh.den : Int)))) 1 130) (fun x0 x1 w' hE d0 d1 => Calls.mono (qInside_f d0 d1 (by decide)) fun _ _ h => RetB h HI.out)) ?_
    refine Rc (mv (Od.lit 15)) ?_
    refine Rc (bn (r := .bool true) (Od.loc 2 131) (Od.loc 3 132) (hr := fun w => by go_simp)) ?_
    refine Rc (mv (Od.lc 4 133)) ?_
    refine RcG 5 134 true (mv (Od.lit 15)) ?_
    refine RcG 5 134 true (mv (Od.lit 12)) ?_
    refine RcG 5 134 true (mv (Od.lc 7 136)) ?_
    refine RcG 8 137 true (ldJ S 3 2 1 0 (g11) 0 (Od.lit 11) ld_Iv rfl rfl rfl rfl) ?_
    refine RcG 8 137 true (ldJ S 13 12 11 10 (g8) 0 (Od.lit 8) ld_Iv rfl rfl rfl rfl) ?_
    refine RcG 8 137 true (cl2 (en Tryz.func60) (Od.lc (Φ := IsJ (IsI 5 ((greatR pl [ul]).num)) (IsI 5 (((greatR pl [ul]).den : Int))) (IsI 5 ((leastR ph [uh]).num)) (IsI 5 (((leastR ph [uh]).den : Int)))) 9 138) (Od.lc (Φ := IsJ (IsI 5 pl.num) (IsI 5 ((pl.den : Int))) (IsI 5 ph.num) (IsI 5 ((ph.den : Int)))) 10 139) (fun x0 x1 w' hE d0 d1 => Calls.mono (rqSameI_f d0 d1 (by decide)) fun _ _ h => RetB h HS.out)) ?_
    refine RcG 5 134 true (pk (Od.loc 8 137) (Od.lc 11 140)) ?_
    refine RcG 5 134 true (bn (r := .bool true) (Od.loc 6 135) (Od.loc 12 141) (hr := fun w => by go_simp)) ?_
    refine Rc (pk (Od.loc 5 134) (Od.lc 13 142)) ?_
    refine Rc (mv (Od.lc 14 143)) ?_
    refine RcG 15 144 true (mv (Od.lit 7)) ?_
    refine Rc (pk (Od.loc 15 144) (Od.lc 16 145)) ?_
    refine Rc (mv (Od.lc 17 146)) ?_
    exact RgAll.nil
  intro v W11 e1 hΦ _
  replace S := S.mono e1
  have v18 : v 18 = .bool true := hΦ 18 (by decide)
  simp only [layL, Act.put, List.setIfInBounds_toArray, List.set_cons_zero, List.set_cons_succ, Nat.reduceAdd]
  rw [v18]
  clear v18 hΦ e1
  refine wpList_nil ?_
  go_wp2_with fail
  exact bodyPost_ret (v := .bool true) (by simp [results, Tryz.results10, go_sem]) rfl (⟨_, rfl, S.ext, rfl⟩)
theorem Meets_c (w : World) (s1x s1y s1z s1t s2x s2y s2z s2t s3x s3y : Bool) (a1x a1y a1z a1t a2x a2y a2z a2t a3x a3y : Option Addr) (n1x c1x n1y c1y n1z c1z n1t c1t n2x c2x n2y c2y n2z c2z n2t c2t n3x c3x n3y c3y : Nat) (x1xn x1xd x1zn x1zd x2xn x2xd x2zn x2zd x3n x3d : List Nat) (h1x : Wd w a1x n1x c1x x1xn) (h1y : Wd w a1y n1y c1y x1xd) (h1z : Wd w a1z n1z c1z x1zn) (h1t : Wd w a1t n1t c1t x1zd) (h2x : Wd w a2x n2x c2x x2xn) (h2y : Wd w a2y n2y c2y x2xd) (h2z : Wd w a2z n2z c2z x2zn) (h2t : Wd w a2t n2t c2t x2zd) (h3x : Wd w a3x n3x c3x x3n) (h3y : Wd w a3y n3y c3y x3d) (ht : Tab w) :
    Calls Tryz.prog 10 #[.agg #[.bool s1x, .slice a1x n1x c1x, .bool s1y, .slice a1y n1y c1y, .bool s1z, .slice a1z n1z c1z, .bool s1t, .slice a1t n1t c1t], .agg #[.bool s2x, .slice a2x n2x c2x, .bool s2y, .slice a2y n2y c2y, .bool s2z, .slice a2z n2z c2z, .bool s2t, .slice a2t n2t c2t], .agg #[.bool s3x, .slice a3x n3x c3x, .bool s3y, .slice a3y n3y c3y]] w (Ret w (IsV (.bool true))) := by
  obtain ⟨p0, e0⟩ : ∃ p, madeQ s1x s1y x1xn x1xd 3 = p := ⟨_, rfl⟩
  obtain ⟨p1, e1⟩ : ∃ p, madeQ s1z s1t x1zn x1zd 3 = p := ⟨_, rfl⟩
  obtain ⟨u0, e2⟩ : ∃ p, madeQ s2x s2y x2xn x2xd 3 = p := ⟨_, rfl⟩
  obtain ⟨u1, e3⟩ : ∃ p, madeQ s2z s2t x2zn x2zd 3 = p := ⟨_, rfl⟩
  have hp := span_le p0 p1
  have hu := span_le u0 u1
  cases hok : decide (0 < cmpQ (greatR (leastR p0 [p1]) [leastR u0 [u1]]) (leastR (greatR p0 [p1]) [greatR u0 [u1]]))
  · obtain ⟨hf, hl, hs⟩ := meets_yes (q := madeQ s3x s3y x3n x3d 3) hp hu hok
    exact Meets_m w s1x s1y s1z s1t s2x s2y s2z s2t s3x s3y a1x a1y a1z a1t a2x a2y a2z a2t a3x a3y n1x c1x n1y c1y n1z c1z n1t c1t n2x c2x n2y c2y n2z c2z n2t c2t n3x c3x n3y c3y x1xn x1xd x1zn x1zd x2xn x2xd x2zn x2zd x3n x3d h1x h1y h1z h1t h2x h2y h2z h2t h3x h3y ht p0 p1 u0 u1 _ _ _ _ _ _ _ _ _ _ _ _ _ _ _ _ _ _ _ (hid e0) (hid e1) (hid e2) (hid e3) (hid rfl) (hid ⟨rfl, rfl⟩) (hid ⟨rfl, rfl⟩) (hid hok) (hid rfl) (hid rfl) (hid rfl) (hid rfl) (hid rfl) (hid rfl) (hid rfl) (hid rfl) (hid rfl) (hid rfl) (hid rfl) (hid rfl) (hid hf) (hid rfl) (hid rfl) (hid rfl) (hid rfl) (hid hl) (hid hs)
  · obtain ⟨hb, hf, hw⟩ := meets_no (q := madeQ s3x s3y x3n x3d 3) hp hu hok
    exact Meets_n w s1x s1y s1z s1t s2x s2y s2z s2t s3x s3y a1x a1y a1z a1t a2x a2y a2z a2t a3x a3y n1x c1x n1y c1y n1z c1z n1t c1t n2x c2x n2y c2y n2z c2z n2t c2t n3x c3x n3y c3y x1xn x1xd x1zn x1zd x2xn x2xd x2zn x2zd x3n x3d h1x h1y h1z h1t h2x h2y h2z h2t h3x h3y ht p0 p1 u0 u1 _ _ _ _ _ _ _ _ _ _ _ _ _ _ _ _ _ (hid e0) (hid e1) (hid e2) (hid e3) (hid rfl) (hid ⟨rfl, rfl⟩) (hid ⟨rfl, rfl⟩) (hid hok) (hid rfl) (hid rfl) (hid hb) (hid rfl) (hid rfl) (hid rfl) (hid rfl) (hid rfl) (hid rfl) (hid rfl) (hid rfl) (hid rfl) (hid hf) (hid rfl) (hid rfl) (hid hw) (hid hw)
end Go.Proofs.YtcgdkfadcglekaaGreatDoor
namespace Go.Proofs.YtcgdkfadcglekaaGreatDoor
open Go Go.RowKit Go.ChangeShapes Go.WideShapes Go.ChangeAt

set_option maxRecDepth 100000 in
theorem rationalMeets_lifted (os : Os) (started : os.Started) (H : Type) (enc : TypeId × Value → H) :
    ReturnsInHanded {} Tryz.checked os 10 .any (fun w args => (Rows.rationalMeetsSpec.pre enc Tryz.prog Tryz.f10 [] false w args ∧ laidMetH Tryz.prog laid3 w) ∧ sizedMet enc Tryz.prog Tryz.f10 (OpenSpec.ofChange Rows.rationalMeetsSpec) false w args)
      (Rows.rationalMeetsSpec.post enc Tryz.prog Tryz.f10 false true false false) := by
  refine returnsInHanded_of_change_and (C := Tryz.checked) (X := fun w _ => laidMetH Tryz.prog laid3 w) (fun _ _ _ hh h => h.of_heap hh) own started (by kernel_rfl) Tryz.func10
    (ChangeSpec.witness_shaped (enc := enc) (C := Tryz.checked) (os := os) (X := fun w _ => laidMetH Tryz.prog laid3 w) false (World.doorLaid Tryz.prog 2000 os) #[.agg #[.bool false, .slice none 0 0, .bool false, .slice none 0 0, .bool false, .slice none 0 0, .bool false, .slice none 0 0], .agg #[.bool false, .slice none 0 0, .bool false, .slice none 0 0, .bool false, .slice none 0 0, .bool false, .slice none 0 0], .agg #[.bool false, .slice none 0 0, .bool false, .slice none 0 0]] 8 rfl (World.shaped_of_RefB (by kernel_rfl) (by kernel_rfl)) (by kernel_rfl) (by kernel_rfl) (by kernel_rfl) (door_met os _)) ?_
  intro W base args ds gs before hval0 hW _ _ hL _
  have hval : ∀ (j : Nat) t v, Tryz.f10.params[j]? = some t → args[j]? = some v → Value.okWide Tryz.prog W .any base t v := hval0
  have hW' := hW
  obtain ⟨p, q, hA0, hV, rfl, hfz, hnd⟩ := hW
  have hA : DataW.TrodAll enc Tryz.prog W 0 (fun _ => true) true Tryz.f10.params.toList args.toList ds p := hA0
  rw [Tryz.params10] at hA hval
  obtain ⟨v1, v2, v3, d1, d2, d3, p1, p2, p3, rfl, rfl, rfl, k1, k2, k3⟩ := trodAll_three hA
  obtain ⟨rfl, rfl⟩ := trodVars_none hV
  obtain ⟨s1x, a1x, n1x, c1x, x1xn, s1y, a1y, n1y, c1y, x1xd, s1z, a1z, n1z, c1z, x1zn, s1t, a1t, n1t, c1t, x1zd, rfl, w1x, w1y, w1z, w1t, r1⟩ := rawp_open (hval 0 66 v1 rfl rfl) k1
  obtain ⟨s2x, a2x, n2x, c2x, x2xn, s2y, a2y, n2y, c2y, x2xd, s2z, a2z, n2z, c2z, x2zn, s2t, a2t, n2t, c2t, x2zd, rfl, w2x, w2y, w2z, w2t, r2⟩ := rawp_open (hval 1 66 v2 rfl rfl) k2
  obtain ⟨s3x, a3x, n3x, c3x, x3n, s3y, a3y, n3y, c3y, x3d, rfl, w3x, w3y, r3⟩ := rawq_open (hval 2 26 v3 rfl rfl) k3
  clear hA0 hval0
  refine (Meets_c W s1x s1y s1z s1t s2x s2y s2z s2t s3x s3y a1x a1y a1z a1t a2x a2y a2z a2t a3x a3y n1x c1x n1y c1y n1z c1z n1t c1t n2x c2x n2y c2y n2z c2z n2t c2t n3x c3x n3y c3y x1xn x1xd x1zn x1zd x2xn x2xd x2zn x2zd x3n x3d w1x w1y w1z w1t w2x w2y w2z w2t w3x w3y (tab_of_laid hL)).mono fun e W' ⟨x, he, hb, hx⟩ => ?_
  have hx : x = .bool true := hx
  subst he; subst hx
  refine ⟨_, rfl, post_of_below (pa := p1 ++ (p2 ++ p3)) (pv := []) hW' (fun _ _ _ => trodAll_mk1 (shut_bool Tryz.underlying4 true)) (fun sp hsp => ?_) (fun _ _ => rfl) (by simp) hb (ok_one (by kernel_rfl) rfl (okWide_bool_mk Tryz.underlying4 _))⟩
  rw [Tryz.params10]
  exact trodAll_mk3 (r1 W' sp hb fun q hq => hsp q (by simp [hq])) (r2 W' sp hb fun q hq => hsp q (by simp [hq])) (r3 W' sp hb fun q hq => hsp q (by simp [hq]))

theorem rationalMeets_row : Rows.RationalMeetsSaid :=
  OpenClaim.holds_of_wide 10 Tryz.f10 rfl rfl rfl rfl rfl rfl rfl ⟨rfl, rfl, rfl, rfl, rfl⟩ rfl rfl rfl rfl rfl (by kernel_rfl) Tryz.func10 (by kernel_rfl)
    (of_decide_eq_true (by kernel_rfl)) (by unfold Func.isWrapper; first | (rw [if_pos (by decide +kernel)]; kernel_rfl) | (rw [if_neg (by decide +kernel)]; exact ⟨rfl, rfl⟩))
    (fun os started H enc _ => rationalMeets_lifted os started H enc)

set_option maxRecDepth 100000 in
/-- The tied card. -/
theorem rationalMeets_holds : Rows.RationalMeetsCardSaid :=
  Claim7.holds_tied_plain_at .later [] [.data, .data, .data] true Rows.rationalMeetsCard.stood.harness false
    rationalMeets_row (fun _ h => by cases h) (by kernel_rfl) (fun _ h => by cases h) rationalMeets_row_tie rfl ⟨rfl, rfl⟩ (by kernel_rfl) rfl
    (fun f fn hf hfn => by
      obtain rfl : f = 10 := Option.some.inj ((show Tryz.prog.funcNamed "algorist/algoristlaw02.RationalMeets" = some 10 by kernel_rfl).symm.trans hf) |>.symm
      obtain rfl : fn = Tryz.f10 := (Option.some.inj (Tryz.func10.symm.trans hfn)).symm
      refine ⟨by kernel_rfl, fun j t ht => ?_⟩
      rw [Tryz.params10] at ht
      have h3 : t = 66 ∨ t = 26 := by
        rcases j with _ | _ | _ | j
        · left; simpa using ht.symm
        · left; simpa using ht.symm
        · right; simpa using ht.symm
        · simp at ht
      rcases h3 with rfl | rfl
      · exact (show Tryz.prog.wantsStandIn 66 = false by kernel_rfl)
      · exact (show Tryz.prog.wantsStandIn 26 = false by kernel_rfl))
    (by kernel_rfl)
#print axioms rationalMeets_holds
end Go.Proofs.YtcgdkfadcglekaaGreatDoor
