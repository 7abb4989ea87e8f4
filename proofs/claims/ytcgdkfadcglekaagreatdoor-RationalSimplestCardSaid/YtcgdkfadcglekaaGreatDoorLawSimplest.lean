/-
  The statement RationalSimplest: for every 2 descriptions of fractions the law answers true, and the descriptions read behind the call as they read before. The listed package variables hold what the program's text lays (the card ties them).
-/
import Derived.Test.YtcgdkfadcglekaaGreatDoorQe
import Derived.Test.YtcgdkfadcglekaaGreatDoorQH
import Derived.Test.YtcgdkfadcglekaaGreatDoorQ15
import Derived.Test.YtcgdkfadcglekaaGreatDoorReadQ
import Derived.Test.YtcgdkfadcglekaaGreatDoorTie
import Derived.Test.YtcgdkfadcglekaaGreatDoorCards
import Derived.SevenTiedAt
namespace Go.Proofs.YtcgdkfadcglekaaGreatDoor
open Go Go.RowKit

theorem cmpQ_cases (p q : Rat) : (p < q ∧ cmpQ p q = -1) ∨ (p = q ∧ cmpQ p q = 0) ∨ (q < p ∧ cmpQ p q = 1) := by
  rcases Int.lt_trichotomy (p.num * (q.den : Int)) (q.num * (p.den : Int)) with h | h | h
  · exact .inl ⟨(rat_lt p q).2 h, cmpI_lt h⟩
  · exact .inr (.inl ⟨(rat_eq p q).2 h, cmpI_eq h⟩)
  · exact .inr (.inr ⟨(rat_lt q p).2 h, cmpI_gt h⟩)
theorem cmpQ_leD (p q : Rat) : decide (cmpQ p q ≤ 0) = decide (p ≤ q) := by
  rcases cmpQ_cases p q with ⟨h, e⟩ | ⟨h, e⟩ | ⟨h, e⟩ <;> rw [e]
  · rw [decide_eq_true (Rat.le_of_lt h)]; rfl
  · rw [h, decide_eq_true (Rat.le_refl)]; rfl
  · rw [decide_eq_false (Rat.not_le.2 h)]; rfl
theorem cmpQ_gtD (p q : Rat) : decide (0 < cmpQ p q) = decide (q < p) := by
  rcases cmpQ_cases p q with ⟨h, e⟩ | ⟨h, e⟩ | ⟨h, e⟩ <;> rw [e]
  · rw [decide_eq_false (Rat.not_lt.2 (Rat.le_of_lt h))]; rfl
  · rw [h, decide_eq_false Rat.lt_irrefl]; rfl
  · rw [decide_eq_true h]; rfl
theorem cmpQ_ltD (p q : Rat) : decide (cmpQ p q < 0) = decide (p < q) := by
  rcases cmpQ_cases p q with ⟨h, e⟩ | ⟨h, e⟩ | ⟨h, e⟩ <;> rw [e]
  · rw [decide_eq_true h]; rfl
  · rw [h, decide_eq_false Rat.lt_irrefl]; rfl
  · rw [decide_eq_false (Rat.not_lt.2 (Rat.le_of_lt h))]; rfl
theorem hasQ_le (p q r : Rat) : hasQ p q r = (decide (p ≤ r) && decide (r ≤ q)) := by unfold hasQ; rw [cmpQ_leD, cmpQ_leD]
theorem le_fracN (a : Rat) (n : Int) (d : Nat) : a * (d : Rat) ≤ (n : Rat) ↔ a.num * d ≤ n * a.den := by
  have hden : (0 : Rat) < (a.den : Rat) := by have := a.den_pos; exact_mod_cast this
  have e : a * (a.den : Rat) = (a.num : Rat) := by
    have h1 := Rat.divInt_eq_div a.num a.den
    rw [Rat.num_divInt_den, Rat.intCast_natCast] at h1
    conv => lhs; lhs; rw [h1]
    exact Rat.div_mul_cancel (fun h => by rw [h] at hden; exact Rat.lt_irrefl hden)
  have k : ((a.num * d : Int) : Rat) ≤ ((n * a.den : Int) : Rat) ↔ a * (d : Rat) * a.den ≤ (n : Rat) * a.den := by
    rw [Rat.intCast_mul, Rat.intCast_mul, ← e, Rat.intCast_natCast, Rat.intCast_natCast, Rat.mul_assoc, Rat.mul_comm (a.den : Rat), ← Rat.mul_assoc]
  rw [← Rat.intCast_le_intCast, k]
  exact ⟨fun h => Rat.mul_le_mul_of_nonneg_right h (Rat.le_of_lt hden), fun h => Rat.le_of_mul_le_mul_right h hden⟩
theorem frac_leN (b : Rat) (n : Int) (d : Nat) : (n : Rat) ≤ b * (d : Rat) ↔ n * b.den ≤ b.num * d := by
  have := le_fracN (-b) (-n) d
  rw [Rat.neg_num, Rat.neg_den, Rat.intCast_neg, Rat.neg_mul, Rat.neg_le_neg_iff, Int.neg_mul, Int.neg_mul, Int.neg_le_neg_iff] at this
  exact this
/-- What the simplest fraction of an interval is. -/
structure Simp (a b q : Rat) : Prop where
  lo : a ≤ q
  hi : q ≤ b
  least : ∀ (n : Int) (d : Nat), 0 < d → a * (d : Rat) ≤ (n : Rat) → (n : Rat) ≤ b * (d : Rat) → q.den ≤ d ∧ q.num.natAbs ≤ n.natAbs
theorem simp_pos {a b : Rat} (ha : 0 < a.num) (h : a ≤ b) {p q : Nat} (k : Smp a.num.toNat a.den b.num.toNat b.den p q) : Simp a b (frac p q) := by
  obtain ⟨_, hb⟩ := le_smp ha h
  have e1 : (a.num.toNat : Int) = a.num := Int.toNat_of_nonneg (by omega)
  have e2 : (b.num.toNat : Int) = b.num := Int.toNat_of_nonneg (by omega)
  have hn := frac_num k.co k.q0
  have hd := frac_den k.co k.q0
  have hlo := k.lo
  have hhi := k.hi
  refine ⟨?_, ?_, fun n d hd0 h1 h2 => ?_⟩
  · rw [Rat.le_iff, hn, hd, ← e1]; exact_mod_cast hlo
  · rw [Rat.le_iff, hn, hd, ← e2]; exact_mod_cast hhi
  · rw [le_fracN, ← e1] at h1
    rw [frac_leN, ← e2] at h2
    have hn0 : 0 ≤ n := by
      refine Int.not_lt.1 fun hn0 => ?_
      have : n * (a.den : Int) ≤ 0 := Int.mul_nonpos_of_nonpos_of_nonneg (by omega) (by omega)
      have : 0 < (a.num.toNat : Int) * (d : Int) := Int.mul_pos (by omega) (by omega)
      omega
    obtain ⟨m, rfl⟩ := Int.eq_ofNat_of_zero_le hn0
    obtain ⟨g1, g2⟩ := k.least m d hd0 (by exact_mod_cast h1) (by exact_mod_cast h2)
    refine ⟨?_, ?_⟩
    · have : ((frac p q).den : Int) = q := hd
      omega
    · rw [hn]; simpa using g2
theorem Simp.neg {a b q : Rat} (h : Simp (-b) (-a) q) : Simp a b (-q) := by
  refine ⟨Rat.le_neg_iff.2 h.hi, Rat.neg_le_iff.2 h.lo, fun n d hd h1 h2 => ?_⟩
  have := h.least (-n) d hd (by rw [Rat.intCast_neg, Rat.neg_mul]; exact Rat.neg_le_neg h2) (by rw [Rat.intCast_neg, Rat.neg_mul]; exact Rat.neg_le_neg h1)
  rw [Rat.neg_den, Rat.neg_num, Int.natAbs_neg]
  rwa [Int.natAbs_neg] at this
theorem btw_simp {a b : Rat} (h : a ≤ b) : Simp a b (btwQ a b) := by
  unfold btwQ
  split
  · rename_i ha
    exact simp_pos ha h (smp_rat ha h)
  · split
    · rename_i hb
      refine Simp.neg (simp_pos (by rw [Rat.neg_num]; omega) (Rat.neg_le_neg h) ?_)
      have := smp_rat (p := -b) (q := -a) (by rw [Rat.neg_num]; omega) (Rat.neg_le_neg h)
      rw [Rat.neg_num, Rat.neg_num, Rat.neg_den, Rat.neg_den] at this ⊢
      exact this
    · rename_i ha hb
      refine ⟨?_, ?_, fun n d hd _ _ => ⟨hd, by simp⟩⟩
      · rw [Rat.le_iff, show (0 : Rat).num = 0 from rfl, show ((0 : Rat).den : Int) = 1 from rfl, Int.mul_one, Int.zero_mul]; omega
      · rw [Rat.le_iff, show (0 : Rat).num = 0 from rfl, show ((0 : Rat).den : Int) = 1 from rfl, Int.mul_one, Int.zero_mul]; omega
theorem isQ_intz {K : Nat} {z : Int} {x : Value} {w : World} (h : IsQ (IsI K z) (IsI 2 1) x w) (hK : 2 ≤ K) : IsRat K (z : Rat) x w := h.up (Nat.le_refl _) hK
theorem mul_den {n : Int} {d : Nat} (hd : 0 < d) : Rat.divInt n d * (d : Rat) = (n : Rat) := by
  have hden : (0 : Rat) < (d : Rat) := by exact_mod_cast hd
  rw [Rat.divInt_eq_div, Rat.intCast_natCast]
  exact Rat.div_mul_cancel (fun h => by rw [h] at hden; exact Rat.lt_irrefl hden)
theorem low_lt {a b q : Rat} (h : Simp a b q) (i : Nat) (hd : i + 1 < q.den) : decide (0 ≤ cmpQ ((b * Rat.divInt ((i : Int) + 1) 1).floor : Rat) (a * Rat.divInt ((i : Int) + 1) 1)) = false := by
  have e : Rat.divInt ((i : Int) + 1) 1 = ((i + 1 : Nat) : Rat) := by rw [← rat_int, ← Rat.intCast_natCast]; rfl
  rw [e]
  have hlt : ((b * ((i + 1 : Nat) : Rat)).floor : Rat) < a * ((i + 1 : Nat) : Rat) := by
    refine Rat.not_le.1 fun k => ?_
    have := (h.least _ (i + 1) (by omega) k (Rat.floor_le _)).1
    omega
  rw [cmpQ_lt hlt]; rfl
theorem near_no {a b q x : Rat} (h : Simp a b q) (s : Int) (hx : x = Rat.divInt s q.den) (hs : s.natAbs < q.num.natAbs) : hasQ a b x = false := by
  rw [Bool.eq_false_iff, hasQ_le]
  intro k
  simp only [Bool.and_eq_true, decide_eq_true_eq] at k
  have hd : (0 : Rat) ≤ (q.den : Rat) := by exact_mod_cast Nat.zero_le _
  have e := mul_den (n := s) q.den_pos
  have k1 := Rat.mul_le_mul_of_nonneg_right k.1 hd
  have k2 := Rat.mul_le_mul_of_nonneg_right k.2 hd
  rw [hx, e] at k1 k2
  have := (h.least s q.den q.den_pos k1 k2).2
  omega
set_option maxRecDepth 100000 in
set_option maxHeartbeats 8000000 in
theorem Simplest_E (w : World) (s1x s1y s2x s2y : Bool) (a1x a1y a2x a2y : Option Addr) (n1x n1y c1x c1y n2x n2y c2x c2y : Nat) (x1n x1d x2n x2d : List Nat) (h1x : Wd w a1x n1x c1x x1n) (h1y : Wd w a1y n1y c1y x1d) (h2x : Wd w a2x n2x c2x x2n) (h2y : Wd w a2y n2y c2y x2d) (ht : Tab w) (qa qb : Rat) (cc : Int) (Ha : Hid (madeQ s1x s1y x1n x1d 3 = qa)) (Hb : Hid (madeQ s2x s2y x2n x2d 3 = qb)) (HLT : Hid (qb < qa)) (HC : Hid (cmpQ qa qb = cc)) (HC1 : Hid (decide (0 < cc) = true)) :
    Calls Tryz.prog 4 #[.agg #[.bool s1x, .slice a1x n1x c1x, .bool s1y, .slice a1y n1y c1y], .agg #[.bool s2x, .slice a2x n2x c2x, .bool s2y, .slice a2y n2y c2y]] w (Ret w (IsV (.bool true))) := by
  obtain ⟨W, hW, S⟩ : ∃ W, W = (w.alloc (.cells #[.bool s1x, .slice a1x n1x c1x, .bool s1y, .slice a1y n1y c1y] 26)).alloc (.cells #[.bool s2x, .slice a2x n2x c2x, .bool s2y, .slice a2y n2y c2y] 26) ∧ Sto w W [((w.heap.size + 1, 1), IsR s2y x2d), ((w.heap.size + 1, 0), IsR s2x x2n), ((w.heap.size, 1), IsR s1y x1d), ((w.heap.size, 0), IsR s1x x1n)] := ⟨_, rfl, (((Sto.start w).new2 (w.heap.size) (by simp) s1x s1y a1x a1y n1x c1x n1y c1y 26 (IsR s1x x1n) (IsR s1y x1d) (IsR.gstb _ _) (⟨_, _, _, rfl, h1x⟩) (IsR.gstb _ _) (⟨_, _, _, rfl, h1y⟩)).new2 (w.heap.size + 1) (by simp) s2x s2y a2x a2y n2x c2x n2y c2y 26 (IsR s2x x2n) (IsR s2y x2d) (IsR.gstb _ _) (⟨_, _, _, rfl, (h2x.ext ((Ext.refl _).alloc _))⟩) (IsR.gstb _ _) (⟨_, _, _, rfl, (h2y.ext ((Ext.refl _).alloc _))⟩))⟩
  clear h1x h1y h2x h2y
  go_enter Tryz.func4, Tryz.ntmps4
  go_upto_region 1 with (fail)
  rw [← hW]
  clear hW
  refine rgs 2 [some 16, some 5] [IsV (.bool true), IsV (.bool true)] [] ?_ ?_
  · refine Rc (cl0 (en Tryz.func12)  (fun w' hE => examplesQ_f _ (ht.ext (S.ext.trans hE)))) ?_
    refine Rc (mv (Od.lc 0 16)) ?_
    exact RgAll.nil
  intro v W1 e1 hΦ _
  replace S := S.mono e1
  have v1 : v 1 = .bool true := hΦ 1 (by decide)
  simp only [layL, Act.put, List.setIfInBounds_toArray, List.set_cons_zero, List.set_cons_succ, Nat.reduceAdd]
  rw [v1]
  clear v1 hΦ e1
  refine wpList_nil ?_
  go_upto_region 2 with (fail)
  refine rgs 2 [some 17, some 18] [IsV (.bool true), IsV (.bool false)] [] ?_ ?_
  · refine Rc (mv (Od.lit 5)) ?_
    refine Rc (nt (Od.loc 0 17)) ?_
    exact RgAll.nil
  intro v W2 e1 hΦ _
  replace S := S.mono e1
  have v1 : v 1 = .bool false := hΦ 1 (by decide)
  simp only [layL, Act.put, List.setIfInBounds_toArray, List.set_cons_zero, List.set_cons_succ, Nat.reduceAdd]
  rw [v1]
  clear v1 hΦ e1
  refine wpList_nil ?_
  go_upto_region 4 with (fail)
  have hl := hid S.lt; have hw := S.ext.size
  refine rgn 8 [some 19, some 20, some 21, some 22, some 6, some 7, none, none] [IsQ (IsR s1x x1n) (IsR s1y x1d), IsQ (IsI 5 qa.num) (IsI 5 ((qa.den : Int))), IsQ (IsR s2x x2n) (IsR s2y x2d), IsQ (IsI 5 qb.num) (IsI 5 ((qb.den : Int))), IsNw W2 2, IsNw W2 2, TT, TT] [4, 5] [none, none, none, none, none, none, some (4, [IsI 5 qa.num, IsI 5 ((qa.den : Int))]), some (5, [IsI 5 qb.num, IsI 5 ((qb.den : Int))])] [none, none, none, none, none, none, some 4, some 5] 0 ?_ ?_
  · refine RcK (ldQ S 3 2 (w.heap.size) 0 (Od.lit 2) ld_RawQ rfl rfl) ?_
    refine RcK (cl2 (en Tryz.func13) (Od.lc (Φ := IsQ (IsR s1x x1n) (IsR s1y x1d)) 0 19) Od.con (fun x0 x1 w' hE d0 d1 => by { obtain rfl : x1 = .int .i64 3 := d1; exact Calls.mono (rqMade_f d0 3 (by decide)) fun _ _ h => h.ratz Ha.out (Nat.le_refl _) })) ?_
    refine RcK (ldQ S 1 0 (w.heap.size + 1) 0 (Od.lit 3) ld_RawQ rfl rfl) ?_
    refine RcK (cl2 (en Tryz.func13) (Od.lc (Φ := IsQ (IsR s2x x2n) (IsR s2y x2d)) 2 21) Od.con (fun x0 x1 w' hE d0 d1 => by { obtain rfl : x1 = .int .i64 3 := d1; exact Calls.mono (rqMade_f d0 3 (by decide)) fun _ _ h => h.ratz Hb.out (Nat.le_refl _) })) ?_
    refine RcK (alN al_Rat) ?_
    refine RcK (alN al_Rat) ?_
    refine RcS 4 (sQ st_Rat (Od.lc (Φ := IsQ (IsI 5 qa.num) (IsI 5 ((qa.den : Int)))) 1 20) (IsI.gstb _ _) (IsI.gstb _ _)) ?_
    refine RcS 5 (sQ st_Rat (Od.lc (Φ := IsQ (IsI 5 qb.num) (IsI 5 ((qb.den : Int)))) 3 22) (IsI.gstb _ _) (IsI.gstb _ _)) ?_
    exact RgAllN.nil
  intro v W3 e1 hΦ hS hne
  replace S := S.mono e1
  obtain ⟨g6, v4, q1, S2⟩ := S.addQ (hΦ 4 (by decide) rfl) (hS 6 (by decide) _ _ rfl) hw (IsI.gstb _ _) (IsI.gstb _ _)
  replace S := S2 (ApartO.old hl.out q1); clear S2
  obtain ⟨g7, v5, q2, S2⟩ := S.addQ (hΦ 5 (by decide) rfl) (hS 7 (by decide) _ _ rfl) hw (IsI.gstb _ _) (IsI.gstb _ _)
  replace S := S2 (ApartO.cons (fun h => hne 4 5 (by decide) (by decide) (by decide) (by decide) (by decide) rfl rfl (by rw [v4, v5, h])) (ApartO.cons (fun h => hne 4 5 (by decide) (by decide) (by decide) (by decide) (by decide) rfl rfl (by rw [v4, v5, h])) (ApartO.old hl.out q2))); clear S2
  simp only [layL, Act.put, List.setIfInBounds_toArray, List.set_cons_zero, List.set_cons_succ, Nat.reduceAdd]
  rw [v4, v5]
  clear hl hw hne v4 v5 hΦ hS e1
  refine wpAny_done (by kernel_rfl) ?_ _
  go_upto_region 5 with (fail)
  have hl := hid S.lt; have hw := S.ext.size
  refine rgs 7 [some 24, some 25, some 26, some 23, some 27, some 28, some 8] [IsQ (IsI 5 qa.num) (IsI 5 ((qa.den : Int))), IsQ (IsI 5 qb.num) (IsI 5 ((qb.den : Int))), IsT2 (IsQ (IsI 0 0) (IsI 0 0)) (IsV (.int .i64 1)), IsT2 (IsQ (IsI 0 0) (IsI 0 0)) (IsV (.int .i64 1)), IsQ (IsI 0 0) (IsI 0 0), IsV (.int .i64 1), IsBo W3 2] [6] ?_ ?_
  · refine Rc (ldQ S 3 2 (g6) 0 (Od.lit 6) ld_Rat rfl rfl) ?_
    refine Rc (ldQ S 1 0 (g7) 0 (Od.lit 7) ld_Rat rfl rfl) ?_
    refine Rc (cl2 (en Tryz.func19) (Od.lc (Φ := IsQ (IsI 5 qa.num) (IsI 5 ((qa.den : Int)))) 0 24) (Od.lc (Φ := IsQ (IsI 5 qb.num) (IsI 5 ((qb.den : Int)))) 1 25) (fun x0 x1 w' hE d0 d1 => qBetweenE_f d0 d1 (by decide) HLT.out)) ?_
    refine Rc (mv (Od.lc 2 26)) ?_
    refine Rc (ex (Od.loc 3 23) t20) ?_
    refine Rc (ex (Od.loc 3 23) t21) ?_
    refine Rc (al al_Rat) ?_
    exact RgAll.nil
  intro v W4 e1 hΦ _
  replace S := S.mono e1
  have h27 := hΦ 4 (by decide)
  have v5 : v 5 = .int .i64 1 := hΦ 5 (by decide)
  obtain ⟨g8, v6, q4, b3, _⟩ := (hΦ 6 (by decide) : IsBo W3 2 (v 6) W4)
  replace S := S.addN 2 (ApartO.old hl.out q4) (Nat.le_trans hw q4) b3
  simp only [newF, List.cons_append, List.nil_append] at S
  simp only [layL, Act.put, List.setIfInBounds_toArray, List.set_cons_zero, List.set_cons_succ, Nat.reduceAdd]
  rw [v5, v6]
  clear b3 hl hw v5 v6 hΦ e1
  try simp only [List.drop_succ_cons, List.drop_zero]
  (with_reducible refine stL ?_ (by rfl)); intro KK hKK; refine stQ S 1 0 (g8) 0 h27 (IsI.gstb _ _) (IsI.gstb _ _) st_Rat (fun W5 S2 G2 => hKK _ _ ?_) rfl rfl
  replace S := S2; clear S2 G2 hKK KK h27
  simp only [List.set_cons_zero, List.set_cons_succ] at S
  refine wpList_step fun K hK => ?_; go_simp; refine hK _ _ ?_; clear hK K
  refine wpList_nil ?_
  go_upto_region 6 with (fail)
  have hl := hid S.lt; have hw := S.ext.size
  refine rgs 7 [some 30, some 31, some 32, some 29, some 33, some 34, some 10] [IsQ (IsI 5 qa.num) (IsI 5 ((qa.den : Int))), IsQ (IsI 5 qb.num) (IsI 5 ((qb.den : Int))), IsT2 (IsQ (IsI 0 0) (IsI 0 0)) (IsV (.int .i64 1)), IsT2 (IsQ (IsI 0 0) (IsI 0 0)) (IsV (.int .i64 1)), IsQ (IsI 0 0) (IsI 0 0), IsV (.int .i64 1), IsBo W5 2] [6] ?_ ?_
  · refine Rc (ldQ S 5 4 (g6) 0 (Od.lit 6) ld_Rat rfl rfl) ?_
    refine Rc (ldQ S 3 2 (g7) 0 (Od.lit 7) ld_Rat rfl rfl) ?_
    refine Rc (cl2 (en Tryz.func20) (Od.lc (Φ := IsQ (IsI 5 qa.num) (IsI 5 ((qa.den : Int)))) 0 30) (Od.lc (Φ := IsQ (IsI 5 qb.num) (IsI 5 ((qb.den : Int)))) 1 31) (fun x0 x1 w' hE d0 d1 => rqBetweenE_f d0 d1 (by decide) HLT.out)) ?_
    refine Rc (mv (Od.lc 2 32)) ?_
    refine Rc (ex (Od.loc 3 29) t20) ?_
    refine Rc (ex (Od.loc 3 29) t21) ?_
    refine Rc (al al_Rat) ?_
    exact RgAll.nil
  intro v W6 e1 hΦ _
  replace S := S.mono e1
  have h33 := hΦ 4 (by decide)
  have v5 : v 5 = .int .i64 1 := hΦ 5 (by decide)
  obtain ⟨g10, v6, q6, b5, _⟩ := (hΦ 6 (by decide) : IsBo W5 2 (v 6) W6)
  replace S := S.addN 2 (ApartO.old hl.out q6) (Nat.le_trans hw q6) b5
  simp only [newF, List.cons_append, List.nil_append] at S
  simp only [layL, Act.put, List.setIfInBounds_toArray, List.set_cons_zero, List.set_cons_succ, Nat.reduceAdd]
  rw [v5, v6]
  clear b5 hl hw v5 v6 hΦ e1
  try simp only [List.drop_succ_cons, List.drop_zero]
  (with_reducible refine stL ?_ (by rfl)); intro KK hKK; refine stQ S 1 0 (g10) 0 h33 (IsI.gstb _ _) (IsI.gstb _ _) st_Rat (fun W7 S2 G2 => hKK _ _ ?_) rfl rfl
  replace S := S2; clear S2 G2 hKK KK h33
  simp only [List.set_cons_zero, List.set_cons_succ] at S
  refine wpList_step fun K hK => ?_; go_simp; refine hK _ _ ?_; clear hK K
  refine wpList_nil ?_
  go_upto_region 7 with (fail)
  refine rgs 9 [some 35, some 36, some 37, some 38, some 39, some 40, some 41, some 42, some 43] [IsV (.int .i64 1), IsV (.int .i64 1), IsV (.bool false), IsV (.bool false), IsQ (IsI 0 0) (IsI 0 0), IsQ (IsI 0 0) (IsI 0 0), IsV (.bool true), IsV (.bool false), IsV (.bool false)] [] ?_ ?_
  · refine Rc (mv (Od.lit 9)) ?_
    refine Rc (mv (Od.lit 11)) ?_
    refine Rc (bn (r := .bool false) (Od.loc 0 35) (Od.loc 1 36) (hr := fun w => by go_simp)) ?_
    refine Rc (mv (Od.lc 2 37)) ?_
    refine RcG 3 38 false (ldQ S 3 2 (g8) 0 (Od.lit 8) ld_Rat rfl rfl) ?_
    refine RcG 3 38 false (ldQ S 1 0 (g10) 0 (Od.lit 10) ld_Rat rfl rfl) ?_
    refine RcG 3 38 false (cl2 (en Tryz.func18) (Od.lc (Φ := IsQ (IsI 0 0) (IsI 0 0)) 4 39) (Od.lc (Φ := IsQ (IsI 0 0) (IsI 0 0)) 5 40) (fun x0 x1 w' hE d0 d1 => rqSame_t d0 d1 (by decide) rfl rfl)) ?_
    refine RcG 3 38 false (nt (Od.loc 6 41)) ?_
    refine Rc (pk (Od.loc 3 38) (Od.lc 7 42)) ?_
    exact RgAll.nil
  intro v W8 e1 hΦ _
  replace S := S.mono e1
  have v8 : v 8 = .bool false := hΦ 8 (by decide)
  simp only [layL, Act.put, List.setIfInBounds_toArray, List.set_cons_zero, List.set_cons_succ, Nat.reduceAdd]
  rw [v8]
  clear v8 hΦ e1
  refine wpList_nil ?_
  go_upto_region 9 with (fail)
  refine rgs 2 [some 44, some 45] [IsV (.int .i64 1), IsV (.bool true)] [] ?_ ?_
  · refine Rc (mv (Od.lit 9)) ?_
    refine Rc (bn (r := .bool true) (Od.loc 0 44) Od.con (hr := fun w => by go_simp)) ?_
    exact RgAll.nil
  intro v W9 e1 hΦ _
  replace S := S.mono e1
  have v1 : v 1 = .bool true := hΦ 1 (by decide)
  simp only [layL, Act.put, List.setIfInBounds_toArray, List.set_cons_zero, List.set_cons_succ, Nat.reduceAdd]
  rw [v1]
  clear v1 hΦ e1
  refine wpList_nil ?_
  go_upto_region 10 with (fail)
  refine rgs 12 [some 46, some 47, some 48, some 49, some 50, some 51, some 52, some 53, some 54, some 55, some 56, some 4] [IsV (.int .i64 1), IsV (.bool true), IsV (.bool true), IsQ (IsI 5 qa.num) (IsI 5 ((qa.den : Int))), IsQ (IsI 5 qb.num) (IsI 5 ((qb.den : Int))), IsV (.int .i64 cc), IsV (.bool true), IsV (.bool true), IsV (.bool true), IsV (.bool true), IsV (.bool true), IsV (.bool true)] [] ?_ ?_
  · refine Rc (mv (Od.lit 9)) ?_
    refine Rc (bn (r := .bool true) (Od.loc 0 46) Od.con (hr := fun w => by go_simp)) ?_
    refine Rc (mv (Od.lc 1 47)) ?_
    refine RcG 2 48 true (ldQ S 7 6 (g6) 0 (Od.lit 6) ld_Rat rfl rfl) ?_
    refine RcG 2 48 true (ldQ S 5 4 (g7) 0 (Od.lit 7) ld_Rat rfl rfl) ?_
    refine RcG 2 48 true (cl2 (en Tryz.func21) (Od.lc (Φ := IsQ (IsI 5 qa.num) (IsI 5 ((qa.den : Int)))) 3 49) (Od.lc (Φ := IsQ (IsI 5 qb.num) (IsI 5 ((qb.den : Int)))) 4 50) (fun x0 x1 w' hE d0 d1 => Calls.mono (qCmp_f d0 d1 (by decide) (by decide)) fun _ _ h => h.int HC.out)) ?_
    refine RcG 2 48 true (bn (r := .bool true) (Od.loc 5 51) Od.con (hr := fun w => by have hx9 := HC1.out; go_simp)) ?_
    refine Rc (pk (Od.loc 2 48) (Od.lc 6 52)) ?_
    refine Rc (mv (Od.lc 7 53)) ?_
    refine RcG 8 54 true (mv (Od.lit 5)) ?_
    refine Rc (pk (Od.loc 8 54) (Od.lc 9 55)) ?_
    refine Rc (mv (Od.lc 10 56)) ?_
    exact RgAll.nil
  intro v W10 e1 hΦ _
  replace S := S.mono e1
  have v11 : v 11 = .bool true := hΦ 11 (by decide)
  simp only [layL, Act.put, List.setIfInBounds_toArray, List.set_cons_zero, List.set_cons_succ, Nat.reduceAdd]
  rw [v11]
  clear v11 hΦ e1
  refine wpList_nil ?_
  go_wp2_with fail
  exact bodyPost_ret (v := .bool true) (by simp [results, Tryz.results4, go_sem]) rfl (⟨_, rfl, S.ext, rfl⟩)
set_option maxRecDepth 100000 in
set_option maxHeartbeats 8000000 in
theorem Simplest_z (w : World) (s1x s1y s2x s2y : Bool) (a1x a1y a2x a2y : Option Addr) (n1x n1y c1x c1y n2x n2y c2x c2y : Nat) (x1n x1d x2n x2d : List Nat) (h1x : Wd w a1x n1x c1x x1n) (h1y : Wd w a1y n1y c1y x1d) (h2x : Wd w a2x n2x c2x x2n) (h2y : Wd w a2y n2y c2y x2d) (ht : Tab w) (qa qb r nr : Rat) (sg : Int) (Ha : Hid (madeQ s1x s1y x1n x1d 3 = qa)) (Hb : Hid (madeQ s2x s2y x2n x2d 3 = qb)) (HLE : Hid (qa ≤ qb)) (HR : Hid (btwQ qa qb = r)) (HSI : Hid (Simp qa qb r)) (HH : Hid (hasQ qa qb r = true)) (HDN : Hid ((r.den : Int) ≠ 0)) (HNR : Hid (Rat.divInt ((r.num.natAbs : Int) - 1) (r.den : Int) = nr)) (HSG : Hid (r.num.sign = sg)) (HSZ : Hid ((sg == 0) = true)) :
    Calls Tryz.prog 4 #[.agg #[.bool s1x, .slice a1x n1x c1x, .bool s1y, .slice a1y n1y c1y], .agg #[.bool s2x, .slice a2x n2x c2x, .bool s2y, .slice a2y n2y c2y]] w (Ret w (IsV (.bool true))) := by
  obtain ⟨W, hW, S⟩ : ∃ W, W = (w.alloc (.cells #[.bool s1x, .slice a1x n1x c1x, .bool s1y, .slice a1y n1y c1y] 26)).alloc (.cells #[.bool s2x, .slice a2x n2x c2x, .bool s2y, .slice a2y n2y c2y] 26) ∧ Sto w W [((w.heap.size + 1, 1), IsR s2y x2d), ((w.heap.size + 1, 0), IsR s2x x2n), ((w.heap.size, 1), IsR s1y x1d), ((w.heap.size, 0), IsR s1x x1n)] := ⟨_, rfl, (((Sto.start w).new2 (w.heap.size) (by simp) s1x s1y a1x a1y n1x c1x n1y c1y 26 (IsR s1x x1n) (IsR s1y x1d) (IsR.gstb _ _) (⟨_, _, _, rfl, h1x⟩) (IsR.gstb _ _) (⟨_, _, _, rfl, h1y⟩)).new2 (w.heap.size + 1) (by simp) s2x s2y a2x a2y n2x c2x n2y c2y 26 (IsR s2x x2n) (IsR s2y x2d) (IsR.gstb _ _) (⟨_, _, _, rfl, (h2x.ext ((Ext.refl _).alloc _))⟩) (IsR.gstb _ _) (⟨_, _, _, rfl, (h2y.ext ((Ext.refl _).alloc _))⟩))⟩
  clear h1x h1y h2x h2y
  go_enter Tryz.func4, Tryz.ntmps4
  go_upto_region 1 with (fail)
  rw [← hW]
  clear hW
  refine rgs 2 [some 16, some 5] [IsV (.bool true), IsV (.bool true)] [] ?_ ?_
  · refine Rc (cl0 (en Tryz.func12)  (fun w' hE => examplesQ_f _ (ht.ext (S.ext.trans hE)))) ?_
    refine Rc (mv (Od.lc 0 16)) ?_
    exact RgAll.nil
  intro v W1 e1 hΦ _
  replace S := S.mono e1
  have v1 : v 1 = .bool true := hΦ 1 (by decide)
  simp only [layL, Act.put, List.setIfInBounds_toArray, List.set_cons_zero, List.set_cons_succ, Nat.reduceAdd]
  rw [v1]
  clear v1 hΦ e1
  refine wpList_nil ?_
  go_upto_region 2 with (fail)
  refine rgs 2 [some 17, some 18] [IsV (.bool true), IsV (.bool false)] [] ?_ ?_
  · refine Rc (mv (Od.lit 5)) ?_
    refine Rc (nt (Od.loc 0 17)) ?_
    exact RgAll.nil
  intro v W2 e1 hΦ _
  replace S := S.mono e1
  have v1 : v 1 = .bool false := hΦ 1 (by decide)
  simp only [layL, Act.put, List.setIfInBounds_toArray, List.set_cons_zero, List.set_cons_succ, Nat.reduceAdd]
  rw [v1]
  clear v1 hΦ e1
  refine wpList_nil ?_
  go_upto_region 4 with (fail)
  have hl := hid S.lt; have hw := S.ext.size
  refine rgn 8 [some 19, some 20, some 21, some 22, some 6, some 7, none, none] [IsQ (IsR s1x x1n) (IsR s1y x1d), IsQ (IsI 5 qa.num) (IsI 5 ((qa.den : Int))), IsQ (IsR s2x x2n) (IsR s2y x2d), IsQ (IsI 5 qb.num) (IsI 5 ((qb.den : Int))), IsNw W2 2, IsNw W2 2, TT, TT] [4, 5] [none, none, none, none, none, none, some (4, [IsI 5 qa.num, IsI 5 ((qa.den : Int))]), some (5, [IsI 5 qb.num, IsI 5 ((qb.den : Int))])] [none, none, none, none, none, none, some 4, some 5] 0 ?_ ?_
  · refine RcK (ldQ S 3 2 (w.heap.size) 0 (Od.lit 2) ld_RawQ rfl rfl) ?_
    refine RcK (cl2 (en Tryz.func13) (Od.lc (Φ := IsQ (IsR s1x x1n) (IsR s1y x1d)) 0 19) Od.con (fun x0 x1 w' hE d0 d1 => by { obtain rfl : x1 = .int .i64 3 := d1; exact Calls.mono (rqMade_f d0 3 (by decide)) fun _ _ h => h.ratz Ha.out (Nat.le_refl _) })) ?_
    refine RcK (ldQ S 1 0 (w.heap.size + 1) 0 (Od.lit 3) ld_RawQ rfl rfl) ?_
    refine RcK (cl2 (en Tryz.func13) (Od.lc (Φ := IsQ (IsR s2x x2n) (IsR s2y x2d)) 2 21) Od.con (fun x0 x1 w' hE d0 d1 => by { obtain rfl : x1 = .int .i64 3 := d1; exact Calls.mono (rqMade_f d0 3 (by decide)) fun _ _ h => h.ratz Hb.out (Nat.le_refl _) })) ?_
    refine RcK (alN al_Rat) ?_
    refine RcK (alN al_Rat) ?_
    refine RcS 4 (sQ st_Rat (Od.lc (Φ := IsQ (IsI 5 qa.num) (IsI 5 ((qa.den : Int)))) 1 20) (IsI.gstb _ _) (IsI.gstb _ _)) ?_
    refine RcS 5 (sQ st_Rat (Od.lc (Φ := IsQ (IsI 5 qb.num) (IsI 5 ((qb.den : Int)))) 3 22) (IsI.gstb _ _) (IsI.gstb _ _)) ?_
    exact RgAllN.nil
  intro v W3 e1 hΦ hS hne
  replace S := S.mono e1
  obtain ⟨g6, v4, q1, S2⟩ := S.addQ (hΦ 4 (by decide) rfl) (hS 6 (by decide) _ _ rfl) hw (IsI.gstb _ _) (IsI.gstb _ _)
  replace S := S2 (ApartO.old hl.out q1); clear S2
  obtain ⟨g7, v5, q2, S2⟩ := S.addQ (hΦ 5 (by decide) rfl) (hS 7 (by decide) _ _ rfl) hw (IsI.gstb _ _) (IsI.gstb _ _)
  replace S := S2 (ApartO.cons (fun h => hne 4 5 (by decide) (by decide) (by decide) (by decide) (by decide) rfl rfl (by rw [v4, v5, h])) (ApartO.cons (fun h => hne 4 5 (by decide) (by decide) (by decide) (by decide) (by decide) rfl rfl (by rw [v4, v5, h])) (ApartO.old hl.out q2))); clear S2
  simp only [layL, Act.put, List.setIfInBounds_toArray, List.set_cons_zero, List.set_cons_succ, Nat.reduceAdd]
  rw [v4, v5]
  clear hl hw hne v4 v5 hΦ hS e1
  refine wpAny_done (by kernel_rfl) ?_ _
  go_upto_region 5 with (fail)
  have hl := hid S.lt; have hw := S.ext.size
  refine rgs 7 [some 24, some 25, some 26, some 23, some 27, some 28, some 8] [IsQ (IsI 5 qa.num) (IsI 5 ((qa.den : Int))), IsQ (IsI 5 qb.num) (IsI 5 ((qb.den : Int))), IsT2 (IsQ (IsI 5 r.num) (IsI 5 ((r.den : Int)))) (IsV (.int .i64 0)), IsT2 (IsQ (IsI 5 r.num) (IsI 5 ((r.den : Int)))) (IsV (.int .i64 0)), IsQ (IsI 5 r.num) (IsI 5 ((r.den : Int))), IsV (.int .i64 0), IsBo W3 2] [6] ?_ ?_
  · refine Rc (ldQ S 3 2 (g6) 0 (Od.lit 6) ld_Rat rfl rfl) ?_
    refine Rc (ldQ S 1 0 (g7) 0 (Od.lit 7) ld_Rat rfl rfl) ?_
    refine Rc (cl2 (en Tryz.func19) (Od.lc (Φ := IsQ (IsI 5 qa.num) (IsI 5 ((qa.den : Int)))) 0 24) (Od.lc (Φ := IsQ (IsI 5 qb.num) (IsI 5 ((qb.den : Int)))) 1 25) (fun x0 x1 w' hE d0 d1 => Calls.mono (qBetween_f d0 d1 (by decide) (by decide) HLE.out) fun _ _ h => h.t2q HR.out (Nat.le_refl _))) ?_
    refine Rc (mv (Od.lc 2 26)) ?_
    refine Rc (ex (Od.loc 3 23) t20) ?_
    refine Rc (ex (Od.loc 3 23) t21) ?_
    refine Rc (al al_Rat) ?_
    exact RgAll.nil
  intro v W4 e1 hΦ _
  replace S := S.mono e1
  have h27 := hΦ 4 (by decide)
  have v5 : v 5 = .int .i64 0 := hΦ 5 (by decide)
  obtain ⟨g8, v6, q4, b3, _⟩ := (hΦ 6 (by decide) : IsBo W3 2 (v 6) W4)
  replace S := S.addN 2 (ApartO.old hl.out q4) (Nat.le_trans hw q4) b3
  simp only [newF, List.cons_append, List.nil_append] at S
  simp only [layL, Act.put, List.setIfInBounds_toArray, List.set_cons_zero, List.set_cons_succ, Nat.reduceAdd]
  rw [v5, v6]
  clear b3 hl hw v5 v6 hΦ e1
  try simp only [List.drop_succ_cons, List.drop_zero]
  (with_reducible refine stL ?_ (by rfl)); intro KK hKK; refine stQ S 1 0 (g8) 0 h27 (IsI.gstb _ _) (IsI.gstb _ _) st_Rat (fun W5 S2 G2 => hKK _ _ ?_) rfl rfl
  replace S := S2; clear S2 G2 hKK KK h27
  simp only [List.set_cons_zero, List.set_cons_succ] at S
  refine wpList_step fun K hK => ?_; go_simp; refine hK _ _ ?_; clear hK K
  refine wpList_nil ?_
  go_upto_region 6 with (fail)
  have hl := hid S.lt; have hw := S.ext.size
  refine rgs 7 [some 30, some 31, some 32, some 29, some 33, some 34, some 10] [IsQ (IsI 5 qa.num) (IsI 5 ((qa.den : Int))), IsQ (IsI 5 qb.num) (IsI 5 ((qb.den : Int))), IsT2 (IsQ (IsI 5 r.num) (IsI 5 ((r.den : Int)))) (IsV (.int .i64 0)), IsT2 (IsQ (IsI 5 r.num) (IsI 5 ((r.den : Int)))) (IsV (.int .i64 0)), IsQ (IsI 5 r.num) (IsI 5 ((r.den : Int))), IsV (.int .i64 0), IsBo W5 2] [6] ?_ ?_
  · refine Rc (ldQ S 5 4 (g6) 0 (Od.lit 6) ld_Rat rfl rfl) ?_
    refine Rc (ldQ S 3 2 (g7) 0 (Od.lit 7) ld_Rat rfl rfl) ?_
    refine Rc (cl2 (en Tryz.func20) (Od.lc (Φ := IsQ (IsI 5 qa.num) (IsI 5 ((qa.den : Int)))) 0 30) (Od.lc (Φ := IsQ (IsI 5 qb.num) (IsI 5 ((qb.den : Int)))) 1 31) (fun x0 x1 w' hE d0 d1 => Calls.mono (rqBetween_f d0 d1 (by decide) (by decide) HLE.out) fun _ _ h => h.t2q HR.out (Nat.le_refl _))) ?_
    refine Rc (mv (Od.lc 2 32)) ?_
    refine Rc (ex (Od.loc 3 29) t20) ?_
    refine Rc (ex (Od.loc 3 29) t21) ?_
    refine Rc (al al_Rat) ?_
    exact RgAll.nil
  intro v W6 e1 hΦ _
  replace S := S.mono e1
  have h33 := hΦ 4 (by decide)
  have v5 : v 5 = .int .i64 0 := hΦ 5 (by decide)
  obtain ⟨g10, v6, q6, b5, _⟩ := (hΦ 6 (by decide) : IsBo W5 2 (v 6) W6)
  replace S := S.addN 2 (ApartO.old hl.out q6) (Nat.le_trans hw q6) b5
  simp only [newF, List.cons_append, List.nil_append] at S
  simp only [layL, Act.put, List.setIfInBounds_toArray, List.set_cons_zero, List.set_cons_succ, Nat.reduceAdd]
  rw [v5, v6]
  clear b5 hl hw v5 v6 hΦ e1
  try simp only [List.drop_succ_cons, List.drop_zero]
  (with_reducible refine stL ?_ (by rfl)); intro KK hKK; refine stQ S 1 0 (g10) 0 h33 (IsI.gstb _ _) (IsI.gstb _ _) st_Rat (fun W7 S2 G2 => hKK _ _ ?_) rfl rfl
  replace S := S2; clear S2 G2 hKK KK h33
  simp only [List.set_cons_zero, List.set_cons_succ] at S
  refine wpList_step fun K hK => ?_; go_simp; refine hK _ _ ?_; clear hK K
  refine wpList_nil ?_
  go_upto_region 7 with (fail)
  refine rgs 9 [some 35, some 36, some 37, some 38, some 39, some 40, some 41, some 42, some 43] [IsV (.int .i64 0), IsV (.int .i64 0), IsV (.bool false), IsV (.bool false), IsQ (IsI 5 r.num) (IsI 5 ((r.den : Int))), IsQ (IsI 5 r.num) (IsI 5 ((r.den : Int))), IsV (.bool true), IsV (.bool false), IsV (.bool false)] [] ?_ ?_
  · refine Rc (mv (Od.lit 9)) ?_
    refine Rc (mv (Od.lit 11)) ?_
    refine Rc (bn (r := .bool false) (Od.loc 0 35) (Od.loc 1 36) (hr := fun w => by go_simp)) ?_
    refine Rc (mv (Od.lc 2 37)) ?_
    refine RcG 3 38 false (ldQ S 3 2 (g8) 0 (Od.lit 8) ld_Rat rfl rfl) ?_
    refine RcG 3 38 false (ldQ S 1 0 (g10) 0 (Od.lit 10) ld_Rat rfl rfl) ?_
    refine RcG 3 38 false (cl2 (en Tryz.func18) (Od.lc (Φ := IsQ (IsI 5 r.num) (IsI 5 ((r.den : Int)))) 4 39) (Od.lc (Φ := IsQ (IsI 5 r.num) (IsI 5 ((r.den : Int)))) 5 40) (fun x0 x1 w' hE d0 d1 => rqSame_eq d0 d1 (by decide) (rfl))) ?_
    refine RcG 3 38 false (nt (Od.loc 6 41)) ?_
    refine Rc (pk (Od.loc 3 38) (Od.lc 7 42)) ?_
    exact RgAll.nil
  intro v W8 e1 hΦ _
  replace S := S.mono e1
  have v8 : v 8 = .bool false := hΦ 8 (by decide)
  simp only [layL, Act.put, List.setIfInBounds_toArray, List.set_cons_zero, List.set_cons_succ, Nat.reduceAdd]
  rw [v8]
  clear v8 hΦ e1
  refine wpList_nil ?_
  go_upto_region 9 with (fail)
  refine rgs 2 [some 44, some 45] [IsV (.int .i64 0), IsV (.bool false)] [] ?_ ?_
  · refine Rc (mv (Od.lit 9)) ?_
    refine Rc (bn (r := .bool false) (Od.loc 0 44) Od.con (hr := fun w => by go_simp)) ?_
    exact RgAll.nil
  intro v W9 e1 hΦ _
  replace S := S.mono e1
  have v1 : v 1 = .bool false := hΦ 1 (by decide)
  simp only [layL, Act.put, List.setIfInBounds_toArray, List.set_cons_zero, List.set_cons_succ, Nat.reduceAdd]
  rw [v1]
  clear v1 hΦ e1
  refine wpList_nil ?_
  go_upto_region 11 with (fail)
  refine rgs 6 [some 57, some 58, some 59, some 60, some 61, some 62] [IsQ (IsI 5 qa.num) (IsI 5 ((qa.den : Int))), IsQ (IsI 5 qb.num) (IsI 5 ((qb.den : Int))), IsJ (IsI 5 qa.num) (IsI 5 ((qa.den : Int))) (IsI 5 qb.num) (IsI 5 ((qb.den : Int))), IsQ (IsI 5 r.num) (IsI 5 ((r.den : Int))), IsV (.bool true), IsV (.bool false)] [] ?_ ?_
  · refine Rc (ldQ S 7 6 (g6) 0 (Od.lit 6) ld_Rat rfl rfl) ?_
    refine Rc (ldQ S 5 4 (g7) 0 (Od.lit 7) ld_Rat rfl rfl) ?_
    refine Rc (bj (Od.loc 0 57) (Od.loc 1 58) bd_Iv) ?_
    refine Rc (ldQ S 3 2 (g8) 0 (Od.lit 8) ld_Rat rfl rfl) ?_
    refine Rc (cl2 (en Tryz.func22) (Od.lc (Φ := IsJ (IsI 5 qa.num) (IsI 5 ((qa.den : Int))) (IsI 5 qb.num) (IsI 5 ((qb.den : Int)))) 2 59) (Od.lc (Φ := IsQ (IsI 5 r.num) (IsI 5 ((r.den : Int)))) 3 60) (fun x0 x1 w' hE d0 d1 => Calls.mono (rqHas_f d0 d1 (by decide)) fun _ _ h => RetB h HH.out)) ?_
    refine Rc (nt (Od.loc 4 61)) ?_
    exact RgAll.nil
  intro v W10 e1 hΦ _
  replace S := S.mono e1
  have v5 : v 5 = .bool false := hΦ 5 (by decide)
  simp only [layL, Act.put, List.setIfInBounds_toArray, List.set_cons_zero, List.set_cons_succ, Nat.reduceAdd]
  rw [v5]
  clear v5 hΦ e1
  refine wpList_nil ?_
  go_upto_region 13 with (fail)
  refine rgs 1 [some 12] [IsV (.int .i64 1)] [] ?_ ?_
  · refine Rc (mv Od.con) ?_
    exact RgAll.nil
  intro v W11 e1 hΦ _
  replace S := S.mono e1
  have v0 : v 0 = .int .i64 1 := hΦ 0 (by decide)
  simp only [layL, Act.put, List.setIfInBounds_toArray, List.set_cons_zero, List.set_cons_succ]
  rw [v0]
  clear v0 hΦ e1
  refine wpList_nil ?_
  go_wp2_with fail
  have S0 := hid S; clear S
  go_loopg [12] 60 (fun gk v12 wr => ∃ i : Nat, v12 = .int .i64 ((i : Int) + 1) ∧ i + gk = 60 ∧ Hid (Sto w wr [((g10, 1), IsI 5 ((r.den : Int))), ((g10, 0), IsI 5 r.num), ((g8, 1), IsI 5 ((r.den : Int))), ((g8, 0), IsI 5 r.num), ((g7, 1), IsI 5 ((qb.den : Int))), ((g7, 0), IsI 5 qb.num), ((g6, 1), IsI 5 ((qa.den : Int))), ((g6, 0), IsI 5 qa.num), ((w.heap.size + 1, 1), IsR s2y x2d), ((w.heap.size + 1, 0), IsR s2x x2n), ((w.heap.size, 1), IsR s1y x1d), ((w.heap.size, 0), IsR s1x x1n)]))
  case atStart => exact ⟨0, rfl, by omega, S0⟩
  case round =>
    clear S0
    obtain ⟨i, rfl, hn, S⟩ := hrel
    have S := S.out
    have HOF := hid (show -9223372036854775808 ≤ (i : Int) + 1 ∧ (i : Int) + 1 ≤ 9223372036854775807 by omega)
    obtain ⟨cd, hcd⟩ : ∃ c, cmpI ((i : Int) + 1) (r.den : Int) = c := ⟨_, rfl⟩
    have HCD := hid hcd
    obtain ⟨b6, hb6⟩ : ∃ b, decide ((i : Int) + 1 ≤ 60) = b := ⟨_, rfl⟩
    have HB6 := hid hb6
    obtain ⟨bd, hbd⟩ : ∃ b, decide (cd < 0) = b := ⟨_, rfl⟩
    have HBD := hid hbd
    by_cases hgo : i + 1 ≤ 60 ∧ i + 1 < r.den
    · skip
      have hcl : cd < 0 := by rw [← hcd, cmpI_lt (by omega)]; decide
      obtain rfl : b6 = true := by rw [← hb6]; exact decide_eq_true (by omega)
      obtain rfl : bd = true := by rw [← hbd]; exact decide_eq_true hcl
      have HHN := hid hn
      have HADD := hid (show IntKind.i64.wrap ((i : Int) + 1 + 1) = (i : Int) + 1 + 1 by simp only [IntKind.wrap_i64]; omega)
      obtain ⟨lw, hlw⟩ : ∃ l, (qb * Rat.divInt ((i : Int) + 1) 1).floor = l := ⟨_, rfl⟩
      have HLW := hid hlw
      obtain ⟨cm, hcm⟩ : ∃ c, cmpQ (lw : Rat) (qa * Rat.divInt ((i : Int) + 1) 1) = c := ⟨_, rfl⟩
      have HCM := hid hcm
      have HCM1 := hid (show decide (0 ≤ cm) = false by rw [← hcm, ← hlw]; exact low_lt HSI.out i hgo.2)
      have HGK := hid hgo
      clear hn hcd hb6 hbd hcl hlw hcm hgo
      go_upto_region 14 with (fail)
      refine rg 10 [some 63, some 64, some 65, some 66, some 67, some 68, some 69, some 70, some 71, some 72] [IsV (.int .i64 ((i : Int) + 1)), IsV (.bool true), IsV (.bool true), IsV (.int .i64 ((i : Int) + 1)), IsI 2 (((i : Int) + 1)), IsV (.pointer (some ⟨g8, 2, none⟩)), IsI 5 ((r.den : Int)), IsV (.int .i64 cd), IsV (.bool true), IsV (.bool true)] [] 0 ?_ ?_
      · refine Rc (mv (Od.lit 12)) ?_
        refine Rc (bn (r := .bool true) (Od.loc 0 63) Od.con (hr := fun w => by have hx9 := HB6.out; go_simp)) ?_
        refine Rc (mv (Od.lc 1 64)) ?_
        refine RcG 2 65 true (mv (Od.lit 12)) ?_
        refine RcG 2 65 true (cl1 (en Tryz.func24) (Od.lc (Φ := IsV (.int .i64 ((i : Int) + 1))) 3 66) (fun x0 w' hE d0 => by { obtain rfl : x0 = .int .i64 ((i : Int) + 1) := d0; exact ROf_f _ ((i : Int) + 1) HOF.out.1 HOF.out.2 })) ?_
        refine RcG 2 65 true (fa (fa_Rat1 (g8) 0) (Od.lit 8)) ?_
        refine RcG 2 65 true (ldI S 2 (g8) 1 (Od.lc 5 68) ld_Int) ?_
        refine RcG 2 65 true (cl2 (en Tryz.func23) (Od.lc (Φ := IsI 2 (((i : Int) + 1))) 4 67) (Od.lc (Φ := IsI 5 ((r.den : Int))) 6 69) (fun x0 x1 w' hE d0 d1 => Calls.mono (RCmp_f d0 d1 (by decide) (by decide)) fun _ _ h => h.int HCD.out)) ?_
        refine RcG 2 65 true (bn (r := .bool true) (Od.loc 7 70) Od.con (hr := fun w => by have hx9 := HBD.out; go_simp)) ?_
        refine Rc (pk (Od.loc 2 65) (Od.lc 8 71)) ?_
        exact RgAll.nil
      intro v W12 e1 hΦ _
      replace S := S.mono e1
      have v9 : v 9 = .bool true := hΦ 9 (by decide)
      simp only [layL, Act.put, List.setIfInBounds_toArray, List.set_cons_zero, List.set_cons_succ, Nat.reduceAdd]
      rw [v9]
      clear v9 hΦ e1
      refine wpAny_done (by kernel_rfl) ?_ _
      go_upto_region 16 with (fail)
      have hl := hid S.lt; have hw := S.ext.size
      refine rgn 7 [some 75, some 76, some 77, some 78, some 79, some 13, none] [IsQ (IsI 5 qb.num) (IsI 5 ((qb.den : Int))), IsV (.int .i64 ((i : Int) + 1)), IsQ (IsI 2 ((Rat.divInt ((i : Int) + 1) 1).num)) (IsI 2 (((Rat.divInt ((i : Int) + 1) 1).den : Int))), IsQ (IsI 7 ((qb * Rat.divInt ((i : Int) + 1) 1).num)) (IsI 7 (((qb * Rat.divInt ((i : Int) + 1) 1).den : Int))), IsI 7 lw, IsNw W12 1, TT] [5] [none, none, none, none, none, none, some (5, [IsI 7 lw])] [none, none, none, none, none, none, some 5] 0 ?_ ?_
      · refine RcK (ldQ S 5 4 (g7) 0 (Od.lit 7) ld_Rat rfl rfl) ?_
        refine RcK (mv (Od.lit 12)) ?_
        refine RcK (cl2 (en Tryz.func27) (Od.lc (Φ := IsV (.int .i64 ((i : Int) + 1))) 1 76) Od.con (fun x0 x1 w' hE d0 d1 => by { obtain rfl : x0 = .int .i64 ((i : Int) + 1) := d0; obtain rfl : x1 = .int .i64 1 := d1; exact rqOf_f w' ((i : Int) + 1) 1 HOF.out (by decide) (by decide) })) ?_
        refine RcK (cl2 (en Tryz.func26) (Od.lc (Φ := IsQ (IsI 5 qb.num) (IsI 5 ((qb.den : Int)))) 0 75) (Od.lc (Φ := IsQ (IsI 2 ((Rat.divInt ((i : Int) + 1) 1).num)) (IsI 2 (((Rat.divInt ((i : Int) + 1) 1).den : Int)))) 2 77) (fun x0 x1 w' hE d0 d1 => rqMul_f d0 d1 (by decide) (by decide))) ?_
        refine RcK (cl1 (en Tryz.func25) (Od.lc (Φ := IsQ (IsI 7 ((qb * Rat.divInt ((i : Int) + 1) 1).num)) (IsI 7 (((qb * Rat.divInt ((i : Int) + 1) 1).den : Int)))) 3 78) (fun x0 w' hE d0 => Calls.mono (rqFloor_f d0 (by decide)) fun _ _ h => h.eqz HLW.out)) ?_
        refine RcK (alN al_Int) ?_
        refine RcS 5 (sI st_Int (Od.lc (Φ := IsI 7 lw) 4 79)) ?_
        exact RgAllN.nil
      intro v W13 e1 hΦ hS _
      replace S := S.mono e1
      obtain ⟨g13, v5, q7, S2⟩ := S.addI (hΦ 5 (by decide) rfl) (hS 6 (by decide) _ _ rfl) hw (IsI.gstb _ _)
      replace S := S2 (ApartO.old hl.out q7); clear S2
      simp only [layL, Act.put, List.setIfInBounds_toArray, List.set_cons_zero, List.set_cons_succ, Nat.reduceAdd]
      rw [v5]
      clear hl hw v5 hΦ hS e1
      refine wpAny_done (by kernel_rfl) ?_ _
      go_upto_region 17 with (fail)
      refine rg 8 [some 80, some 81, some 82, some 83, some 84, some 85, some 86, some 87] [IsI 7 lw, IsQ (IsI 7 lw) (IsI 2 1), IsQ (IsI 5 qa.num) (IsI 5 ((qa.den : Int))), IsV (.int .i64 ((i : Int) + 1)), IsQ (IsI 2 ((Rat.divInt ((i : Int) + 1) 1).num)) (IsI 2 (((Rat.divInt ((i : Int) + 1) 1).den : Int))), IsQ (IsI 7 ((qa * Rat.divInt ((i : Int) + 1) 1).num)) (IsI 7 (((qa * Rat.divInt ((i : Int) + 1) 1).den : Int))), IsV (.int .i64 cm), IsV (.bool false)] [] 0 ?_ ?_
      · refine Rc (ldI S 0 (g13) 0 (Od.lit 13) ld_Int) ?_
        refine Rc (cl1 (en Tryz.func29) (Od.lc (Φ := IsI 7 lw) 0 80) (fun x0 w' hE d0 => rqWhole_c d0)) ?_
        refine Rc (ldQ S 8 7 (g6) 0 (Od.lit 6) ld_Rat rfl rfl) ?_
        refine Rc (mv (Od.lit 12)) ?_
        refine Rc (cl2 (en Tryz.func27) (Od.lc (Φ := IsV (.int .i64 ((i : Int) + 1))) 3 83) Od.con (fun x0 x1 w' hE d0 d1 => by { obtain rfl : x0 = .int .i64 ((i : Int) + 1) := d0; obtain rfl : x1 = .int .i64 1 := d1; exact rqOf_f w' ((i : Int) + 1) 1 HOF.out (by decide) (by decide) })) ?_
        refine Rc (cl2 (en Tryz.func26) (Od.lc (Φ := IsQ (IsI 5 qa.num) (IsI 5 ((qa.den : Int)))) 2 82) (Od.lc (Φ := IsQ (IsI 2 ((Rat.divInt ((i : Int) + 1) 1).num)) (IsI 2 (((Rat.divInt ((i : Int) + 1) 1).den : Int)))) 4 84) (fun x0 x1 w' hE d0 d1 => rqMul_f d0 d1 (by decide) (by decide))) ?_
        refine Rc (cl2 (en Tryz.func28) (Od.lc (Φ := IsQ (IsI 7 lw) (IsI 2 1)) 1 81) (Od.lc (Φ := IsQ (IsI 7 ((qa * Rat.divInt ((i : Int) + 1) 1).num)) (IsI 7 (((qa * Rat.divInt ((i : Int) + 1) 1).den : Int)))) 5 85) (fun x0 x1 w' hE d0 d1 => Calls.mono (rqCmp_f (isQ_intz d0 (by decide)) d1 (by decide) (by decide)) fun _ _ h => h.int HCM.out)) ?_
        refine Rc (bn (r := .bool false) (Od.loc 6 86) Od.con (hr := fun w => by have hx9 := HCM1.out; go_simp)) ?_
        exact RgAll.nil
      intro v W14 e1 hΦ _
      replace S := S.mono e1
      have v7 : v 7 = .bool false := hΦ 7 (by decide)
      simp only [layL, Act.put, List.setIfInBounds_toArray, List.set_cons_zero, List.set_cons_succ, Nat.reduceAdd]
      rw [v7]
      clear v7 hΦ e1
      refine wpAny_done (by kernel_rfl) ?_ _
      have hx9 := HADD.out
      have S' := hid (S.drop 1); clear S
      go_wp2_with fail
      go_roundg (gk - 1)
      case measure => have := HHN.out; have := HGK.out.1; omega
      case rel => exact ⟨i + 1, by rw [Int.natCast_add]; rfl, by have := HHN.out; have := HGK.out.1; omega, S'⟩
    · skip
      have HEX := hid (show (b6 && bd) = false by
        rw [← hb6, ← hbd, ← hcd, Bool.eq_false_iff]
        intro k
        simp only [Bool.and_eq_true, decide_eq_true_eq] at k
        refine hgo ⟨by omega, ?_⟩
        have k2 := k.2
        unfold cmpI at k2
        split at k2
        · omega
        · split at k2 <;> omega)
      clear hn hcd hb6 hbd hgo
      go_upto_region 14 with (fail)
      refine rg 10 [some 63, some 64, some 65, some 66, some 67, some 68, some 69, some 70, some 71, some 72] [IsV (.int .i64 ((i : Int) + 1)), IsV (.bool b6), IsV (.bool b6), IsIf (b6) (IsV (.int .i64 ((i : Int) + 1))), IsIf (b6) (IsI 2 (((i : Int) + 1))), IsIf (b6) (IsV (.pointer (some ⟨g8, 2, none⟩))), IsIf (b6) (IsI 5 ((r.den : Int))), IsIf (b6) (IsV (.int .i64 cd)), IsIf (b6) (IsV (.bool bd)), IsV (.bool false)] [] 0 ?_ ?_ (hst := by repeat' (first | exact trivial | apply IsIf.stb | exact IsV.stb _ | exact IsI.stb _ _ | apply IsJ.stb | apply IsQ.stb | apply And.intro))
      · refine Rc (mv (Od.lit 12)) ?_
        refine Rc (bn (r := .bool b6) (Od.loc 0 63) Od.con (hr := fun w => by have hx9 := HB6.out; go_simp)) ?_
        refine Rc (mv (Od.lc 1 64)) ?_
        refine RcB 2 65 b6 true (fun hb => by subst hb; exact mv (Od.lit 12)) ?_
        refine RcB 2 65 b6 true (fun hb => by subst hb; exact cl1 (en Tryz.func24) (Od.lc (Φ := IsV (.int .i64 ((i : Int) + 1))) 3 66) (fun x0 w' hE d0 => by { obtain rfl : x0 = .int .i64 ((i : Int) + 1) := d0; exact ROf_f _ ((i : Int) + 1) HOF.out.1 HOF.out.2 })) ?_
        refine RcB 2 65 b6 true (fun hb => by subst hb; exact fa (fa_Rat1 (g8) 0) (Od.lit 8)) ?_
        refine RcB 2 65 b6 true (fun hb => by subst hb; exact ldI S 2 (g8) 1 (Od.lc 5 68) ld_Int) ?_
        refine RcB 2 65 b6 true (fun hb => by subst hb; exact cl2 (en Tryz.func23) (Od.lc (Φ := IsI 2 (((i : Int) + 1))) 4 67) (Od.lc (Φ := IsI 5 ((r.den : Int))) 6 69) (fun x0 x1 w' hE d0 d1 => Calls.mono (RCmp_f d0 d1 (by decide) (by decide)) fun _ _ h => h.int HCD.out)) ?_
        refine RcB 2 65 b6 true (fun hb => by subst hb; exact bn (r := .bool bd) (Od.loc 7 70) Od.con (hr := fun w => by have hx9 := HBD.out; go_simp)) ?_
        refine Rc (pkA (b2 := bd) (Od.loc 2 65) (fun hb => by subst hb; exact Od.lc 8 71) (HEX.out)) ?_
        exact RgAll.nil
      intro v W15 e1 hΦ _
      replace S := S.mono e1
      have v9 : v 9 = .bool false := hΦ 9 (by decide)
      simp only [layL, Act.put, List.setIfInBounds_toArray, List.set_cons_zero, List.set_cons_succ, Nat.reduceAdd]
      rw [v9]
      clear v9 hΦ e1
      refine wpAny_done (by kernel_rfl) ?_ _
      go_upto_region 19 with (fail)
      have hl := hid S.lt; have hw := S.ext.size
      refine rgn 14 [some 89, some 90, some 91, some 92, some 93, some 94, some 95, some 96, some 88, some 97, some 98, some 14, none, some 15] [IsV (.pointer (some ⟨g8, 0, none⟩)), IsI 5 r.num, IsI 5 r.num.natAbs, IsI 2 1, IsI 6 (r.num.natAbs - 1), IsV (.pointer (some ⟨g8, 2, none⟩)), IsI 5 ((r.den : Int)), IsT2 (IsQ (IsI 8 nr.num) (IsI 8 ((nr.den : Int)))) (IsV (.int .i64 0)), IsT2 (IsQ (IsI 8 nr.num) (IsI 8 ((nr.den : Int)))) (IsV (.int .i64 0)), IsQ (IsI 8 nr.num) (IsI 8 ((nr.den : Int))), IsV (.int .i64 0), IsNw W15 2, TT, IsV (.int .i64 0)] [11] [none, none, none, none, none, none, none, none, none, none, none, none, some (11, [IsI 8 nr.num, IsI 8 ((nr.den : Int))]), none] [none, none, none, none, none, none, none, none, none, none, none, none, some 11, none] 0 ?_ ?_
      · refine RcK (fa (fa_Rat0 (g8) 0) (Od.lit 8)) ?_
        refine RcK (ldI S 3 (g8) 0 (Od.lc 0 89) ld_Int) ?_
        refine RcK (cl1 (en Tryz.func32) (Od.lc (Φ := IsI 5 r.num) 1 90) (fun x0 w' hE d0 => RAbs_f d0)) ?_
        refine RcK (cl1 (en Tryz.func24) Od.con (fun x0 w' hE d0 => by { obtain rfl : x0 = .int .i64 1 := d0; exact ROf_f _ 1 (by decide) (by decide) })) ?_
        refine RcK (cl2 (en Tryz.func31) (Od.lc (Φ := IsI 5 r.num.natAbs) 2 91) (Od.lc (Φ := IsI 2 1) 3 92) (fun x0 x1 w' hE d0 d1 => RSub_f d0 d1 (by decide) (by decide))) ?_
        refine RcK (fa (fa_Rat1 (g8) 0) (Od.lit 8)) ?_
        refine RcK (ldI S 2 (g8) 1 (Od.lc 5 94) ld_Int) ?_
        refine RcK (cl2 (en Tryz.func30) (Od.lc (Φ := IsI 6 (r.num.natAbs - 1)) 4 93) (Od.lc (Φ := IsI 5 ((r.den : Int))) 6 95) (fun x0 x1 w' hE d0 d1 => Calls.mono (qNew_f d0 d1 (by decide) (by decide) HDN.out) fun _ _ h => h.t2q HNR.out (Nat.le_refl _))) ?_
        refine RcK (mv (Od.lc 7 96)) ?_
        refine RcK (ex (Od.loc 8 88) t20) ?_
        refine RcK (ex (Od.loc 8 88) t21) ?_
        refine RcK (alN al_Rat) ?_
        refine RcS 11 (sQ st_Rat (Od.lc (Φ := IsQ (IsI 8 nr.num) (IsI 8 ((nr.den : Int)))) 9 97) (IsI.gstb _ _) (IsI.gstb _ _)) ?_
        refine RcK (mv (Od.lc 10 98)) ?_
        exact RgAllN.nil
      intro v W16 e1 hΦ hS _
      replace S := S.mono e1
      obtain ⟨g14, v11, q8, S2⟩ := S.addQ (hΦ 11 (by decide) rfl) (hS 12 (by decide) _ _ rfl) hw (IsI.gstb _ _) (IsI.gstb _ _)
      replace S := S2 (ApartO.old hl.out q8); clear S2
      have v13 : v 13 = .int .i64 0 := hΦ 13 (by decide) rfl
      simp only [layL, Act.put, List.setIfInBounds_toArray, List.set_cons_zero, List.set_cons_succ, Nat.reduceAdd]
      rw [v11, v13]
      clear hl hw v11 v13 hΦ hS e1
      refine wpAny_done (by kernel_rfl) ?_ _
      go_upto_region 20 with (fail)
      refine rgs 8 [some 99, some 100, some 101, some 102, some 103, some 104, some 105, some 106] [IsV (.pointer (some ⟨g8, 0, none⟩)), IsI 5 r.num, IsV (.int .i64 sg), IsV (.bool true), IsV (.bool true), IsV (undef), IsV (undef), IsV (.bool true)] [] ?_ ?_
      · refine Rc (fa (fa_Rat0 (g8) 0) (Od.lit 8)) ?_
        refine Rc (ldI S 5 (g8) 0 (Od.lc 0 99) ld_Int) ?_
        refine Rc (cl1 (en Tryz.func33) (Od.lc (Φ := IsI 5 r.num) 1 100) (fun x0 w' hE d0 => Calls.mono (RSign_f d0) fun _ _ h => h.int (HSG.out))) ?_
        refine Rc (bn (r := .bool true) (Od.loc 2 101) Od.con (hr := fun w => by have hx9 := HSZ.out; go_simp)) ?_
        refine Rc (mv (Od.lc 3 102)) ?_
        refine RcN 4 103 true ?_
        refine RcN 4 103 true ?_
        refine Rc (pk (Od.loc 4 103) Od.con) ?_
        exact RgAll.nil
      intro v W17 e1 hΦ _
      replace S := S.mono e1
      have v7 : v 7 = .bool true := hΦ 7 (by decide)
      simp only [layL, Act.put, List.setIfInBounds_toArray, List.set_cons_zero, List.set_cons_succ, Nat.reduceAdd]
      rw [v7]
      clear v7 hΦ e1
      refine wpList_nil ?_
      go_upto_region 21 with (fail)
      refine rgs 8 [some 107, some 108, some 109, some 110, some 111, some 112, some 113, some 4] [IsV (.pointer (some ⟨g8, 0, none⟩)), IsI 5 r.num, IsV (.int .i64 sg), IsV (.bool true), IsV (.bool true), IsV (.bool true), IsV (.bool true), IsV (.bool true)] [] ?_ ?_
      · refine Rc (fa (fa_Rat0 (g8) 0) (Od.lit 8)) ?_
        refine Rc (ldI S 5 (g8) 0 (Od.lc 0 107) ld_Int) ?_
        refine Rc (cl1 (en Tryz.func33) (Od.lc (Φ := IsI 5 r.num) 1 108) (fun x0 w' hE d0 => Calls.mono (RSign_f d0) fun _ _ h => h.int (HSG.out))) ?_
        refine Rc (bn (r := .bool true) (Od.loc 2 109) Od.con (hr := fun w => by have hx9 := HSZ.out; go_simp)) ?_
        refine Rc (mv (Od.lc 3 110)) ?_
        refine RcG 4 111 true (mv (Od.lit 5)) ?_
        refine Rc (pk (Od.loc 4 111) (Od.lc 5 112)) ?_
        refine Rc (mv (Od.lc 6 113)) ?_
        exact RgAll.nil
      intro v W18 e1 hΦ _
      replace S := S.mono e1
      have v7 : v 7 = .bool true := hΦ 7 (by decide)
      simp only [layL, Act.put, List.setIfInBounds_toArray, List.set_cons_zero, List.set_cons_succ, Nat.reduceAdd]
      rw [v7]
      clear v7 hΦ e1
      refine wpList_nil ?_
      go_wp2_with fail
      exact bodyPost_ret (v := .bool true) (by simp [results, Tryz.results4, go_sem]) rfl (⟨_, rfl, S.ext, rfl⟩)
set_option maxRecDepth 100000 in
set_option maxHeartbeats 8000000 in
theorem Simplest_p (w : World) (s1x s1y s2x s2y : Bool) (a1x a1y a2x a2y : Option Addr) (n1x n1y c1x c1y n2x n2y c2x c2y : Nat) (x1n x1d x2n x2d : List Nat) (h1x : Wd w a1x n1x c1x x1n) (h1y : Wd w a1y n1y c1y x1d) (h2x : Wd w a2x n2x c2x x2n) (h2y : Wd w a2y n2y c2y x2d) (ht : Tab w) (qa qb r nr : Rat) (sg : Int) (Ha : Hid (madeQ s1x s1y x1n x1d 3 = qa)) (Hb : Hid (madeQ s2x s2y x2n x2d 3 = qb)) (HLE : Hid (qa ≤ qb)) (HR : Hid (btwQ qa qb = r)) (HSI : Hid (Simp qa qb r)) (HH : Hid (hasQ qa qb r = true)) (HDN : Hid ((r.den : Int) ≠ 0)) (HNR : Hid (Rat.divInt ((r.num.natAbs : Int) - 1) (r.den : Int) = nr)) (HSG : Hid (r.num.sign = sg)) (HSZ : Hid ((sg == 0) = false)) (HSN : Hid (decide (sg < 0) = false)) (HNO : Hid (hasQ qa qb (nr) = false)) :
    Calls Tryz.prog 4 #[.agg #[.bool s1x, .slice a1x n1x c1x, .bool s1y, .slice a1y n1y c1y], .agg #[.bool s2x, .slice a2x n2x c2x, .bool s2y, .slice a2y n2y c2y]] w (Ret w (IsV (.bool true))) := by
  obtain ⟨W, hW, S⟩ : ∃ W, W = (w.alloc (.cells #[.bool s1x, .slice a1x n1x c1x, .bool s1y, .slice a1y n1y c1y] 26)).alloc (.cells #[.bool s2x, .slice a2x n2x c2x, .bool s2y, .slice a2y n2y c2y] 26) ∧ Sto w W [((w.heap.size + 1, 1), IsR s2y x2d), ((w.heap.size + 1, 0), IsR s2x x2n), ((w.heap.size, 1), IsR s1y x1d), ((w.heap.size, 0), IsR s1x x1n)] := ⟨_, rfl, (((Sto.start w).new2 (w.heap.size) (by simp) s1x s1y a1x a1y n1x c1x n1y c1y 26 (IsR s1x x1n) (IsR s1y x1d) (IsR.gstb _ _) (⟨_, _, _, rfl, h1x⟩) (IsR.gstb _ _) (⟨_, _, _, rfl, h1y⟩)).new2 (w.heap.size + 1) (by simp) s2x s2y a2x a2y n2x c2x n2y c2y 26 (IsR s2x x2n) (IsR s2y x2d) (IsR.gstb _ _) (⟨_, _, _, rfl, (h2x.ext ((Ext.refl _).alloc _))⟩) (IsR.gstb _ _) (⟨_, _, _, rfl, (h2y.ext ((Ext.refl _).alloc _))⟩))⟩
  clear h1x h1y h2x h2y
  go_enter Tryz.func4, Tryz.ntmps4
  go_upto_region 1 with (fail)
  rw [← hW]
  clear hW
  refine rgs 2 [some 16, some 5] [IsV (.bool true), IsV (.bool true)] [] ?_ ?_
  · refine Rc (cl0 (en Tryz.func12)  (fun w' hE => examplesQ_f _ (ht.ext (S.ext.trans hE)))) ?_
    refine Rc (mv (Od.lc 0 16)) ?_
    exact RgAll.nil
  intro v W1 e1 hΦ _
  replace S := S.mono e1
  have v1 : v 1 = .bool true := hΦ 1 (by decide)
  simp only [layL, Act.put, List.setIfInBounds_toArray, List.set_cons_zero, List.set_cons_succ, Nat.reduceAdd]
  rw [v1]
  clear v1 hΦ e1
  refine wpList_nil ?_
  go_upto_region 2 with (fail)
  refine rgs 2 [some 17, some 18] [IsV (.bool true), IsV (.bool false)] [] ?_ ?_
  · refine Rc (mv (Od.lit 5)) ?_
    refine Rc (nt (Od.loc 0 17)) ?_
    exact RgAll.nil
  intro v W2 e1 hΦ _
  replace S := S.mono e1
  have v1 : v 1 = .bool false := hΦ 1 (by decide)
  simp only [layL, Act.put, List.setIfInBounds_toArray, List.set_cons_zero, List.set_cons_succ, Nat.reduceAdd]
  rw [v1]
  clear v1 hΦ e1
  refine wpList_nil ?_
  go_upto_region 4 with (fail)
  have hl := hid S.lt; have hw := S.ext.size
  refine rgn 8 [some 19, some 20, some 21, some 22, some 6, some 7, none, none] [IsQ (IsR s1x x1n) (IsR s1y x1d), IsQ (IsI 5 qa.num) (IsI 5 ((qa.den : Int))), IsQ (IsR s2x x2n) (IsR s2y x2d), IsQ (IsI 5 qb.num) (IsI 5 ((qb.den : Int))), IsNw W2 2, IsNw W2 2, TT, TT] [4, 5] [none, none, none, none, none, none, some (4, [IsI 5 qa.num, IsI 5 ((qa.den : Int))]), some (5, [IsI 5 qb.num, IsI 5 ((qb.den : Int))])] [none, none, none, none, none, none, some 4, some 5] 0 ?_ ?_
  · refine RcK (ldQ S 3 2 (w.heap.size) 0 (Od.lit 2) ld_RawQ rfl rfl) ?_
    refine RcK (cl2 (en Tryz.func13) (Od.lc (Φ := IsQ (IsR s1x x1n) (IsR s1y x1d)) 0 19) Od.con (fun x0 x1 w' hE d0 d1 => by { obtain rfl : x1 = .int .i64 3 := d1; exact Calls.mono (rqMade_f d0 3 (by decide)) fun _ _ h => h.ratz Ha.out (Nat.le_refl _) })) ?_
    refine RcK (ldQ S 1 0 (w.heap.size + 1) 0 (Od.lit 3) ld_RawQ rfl rfl) ?_
    refine RcK (cl2 (en Tryz.func13) (Od.lc (Φ := IsQ (IsR s2x x2n) (IsR s2y x2d)) 2 21) Od.con (fun x0 x1 w' hE d0 d1 => by { obtain rfl : x1 = .int .i64 3 := d1; exact Calls.mono (rqMade_f d0 3 (by decide)) fun _ _ h => h.ratz Hb.out (Nat.le_refl _) })) ?_
    refine RcK (alN al_Rat) ?_
    refine RcK (alN al_Rat) ?_
    refine RcS 4 (sQ st_Rat (Od.lc (Φ := IsQ (IsI 5 qa.num) (IsI 5 ((qa.den : Int)))) 1 20) (IsI.gstb _ _) (IsI.gstb _ _)) ?_
    refine RcS 5 (sQ st_Rat (Od.lc (Φ := IsQ (IsI 5 qb.num) (IsI 5 ((qb.den : Int)))) 3 22) (IsI.gstb _ _) (IsI.gstb _ _)) ?_
    exact RgAllN.nil
  intro v W3 e1 hΦ hS hne
  replace S := S.mono e1
  obtain ⟨g6, v4, q1, S2⟩ := S.addQ (hΦ 4 (by decide) rfl) (hS 6 (by decide) _ _ rfl) hw (IsI.gstb _ _) (IsI.gstb _ _)
  replace S := S2 (ApartO.old hl.out q1); clear S2
  obtain ⟨g7, v5, q2, S2⟩ := S.addQ (hΦ 5 (by decide) rfl) (hS 7 (by decide) _ _ rfl) hw (IsI.gstb _ _) (IsI.gstb _ _)
  replace S := S2 (ApartO.cons (fun h => hne 4 5 (by decide) (by decide) (by decide) (by decide) (by decide) rfl rfl (by rw [v4, v5, h])) (ApartO.cons (fun h => hne 4 5 (by decide) (by decide) (by decide) (by decide) (by decide) rfl rfl (by rw [v4, v5, h])) (ApartO.old hl.out q2))); clear S2
  simp only [layL, Act.put, List.setIfInBounds_toArray, List.set_cons_zero, List.set_cons_succ, Nat.reduceAdd]
  rw [v4, v5]
  clear hl hw hne v4 v5 hΦ hS e1
  refine wpAny_done (by kernel_rfl) ?_ _
  go_upto_region 5 with (fail)
  have hl := hid S.lt; have hw := S.ext.size
  refine rgs 7 [some 24, some 25, some 26, some 23, some 27, some 28, some 8] [IsQ (IsI 5 qa.num) (IsI 5 ((qa.den : Int))), IsQ (IsI 5 qb.num) (IsI 5 ((qb.den : Int))), IsT2 (IsQ (IsI 5 r.num) (IsI 5 ((r.den : Int)))) (IsV (.int .i64 0)), IsT2 (IsQ (IsI 5 r.num) (IsI 5 ((r.den : Int)))) (IsV (.int .i64 0)), IsQ (IsI 5 r.num) (IsI 5 ((r.den : Int))), IsV (.int .i64 0), IsBo W3 2] [6] ?_ ?_
  · refine Rc (ldQ S 3 2 (g6) 0 (Od.lit 6) ld_Rat rfl rfl) ?_
    refine Rc (ldQ S 1 0 (g7) 0 (Od.lit 7) ld_Rat rfl rfl) ?_
    refine Rc (cl2 (en Tryz.func19) (Od.lc (Φ := IsQ (IsI 5 qa.num) (IsI 5 ((qa.den : Int)))) 0 24) (Od.lc (Φ := IsQ (IsI 5 qb.num) (IsI 5 ((qb.den : Int)))) 1 25) (fun x0 x1 w' hE d0 d1 => Calls.mono (qBetween_f d0 d1 (by decide) (by decide) HLE.out) fun _ _ h => h.t2q HR.out (Nat.le_refl _))) ?_
    refine Rc (mv (Od.lc 2 26)) ?_
    refine Rc (ex (Od.loc 3 23) t20) ?_
    refine Rc (ex (Od.loc 3 23) t21) ?_
    refine Rc (al al_Rat) ?_
    exact RgAll.nil
  intro v W4 e1 hΦ _
  replace S := S.mono e1
  have h27 := hΦ 4 (by decide)
  have v5 : v 5 = .int .i64 0 := hΦ 5 (by decide)
  obtain ⟨g8, v6, q4, b3, _⟩ := (hΦ 6 (by decide) : IsBo W3 2 (v 6) W4)
  replace S := S.addN 2 (ApartO.old hl.out q4) (Nat.le_trans hw q4) b3
  simp only [newF, List.cons_append, List.nil_append] at S
  simp only [layL, Act.put, List.setIfInBounds_toArray, List.set_cons_zero, List.set_cons_succ, Nat.reduceAdd]
  rw [v5, v6]
  clear b3 hl hw v5 v6 hΦ e1
  try simp only [List.drop_succ_cons, List.drop_zero]
  (with_reducible refine stL ?_ (by rfl)); intro KK hKK; refine stQ S 1 0 (g8) 0 h27 (IsI.gstb _ _) (IsI.gstb _ _) st_Rat (fun W5 S2 G2 => hKK _ _ ?_) rfl rfl
  replace S := S2; clear S2 G2 hKK KK h27
  simp only [List.set_cons_zero, List.set_cons_succ] at S
  refine wpList_step fun K hK => ?_; go_simp; refine hK _ _ ?_; clear hK K
  refine wpList_nil ?_
  go_upto_region 6 with (fail)
  have hl := hid S.lt; have hw := S.ext.size
  refine rgs 7 [some 30, some 31, some 32, some 29, some 33, some 34, some 10] [IsQ (IsI 5 qa.num) (IsI 5 ((qa.den : Int))), IsQ (IsI 5 qb.num) (IsI 5 ((qb.den : Int))), IsT2 (IsQ (IsI 5 r.num) (IsI 5 ((r.den : Int)))) (IsV (.int .i64 0)), IsT2 (IsQ (IsI 5 r.num) (IsI 5 ((r.den : Int)))) (IsV (.int .i64 0)), IsQ (IsI 5 r.num) (IsI 5 ((r.den : Int))), IsV (.int .i64 0), IsBo W5 2] [6] ?_ ?_
  · refine Rc (ldQ S 5 4 (g6) 0 (Od.lit 6) ld_Rat rfl rfl) ?_
    refine Rc (ldQ S 3 2 (g7) 0 (Od.lit 7) ld_Rat rfl rfl) ?_
    refine Rc (cl2 (en Tryz.func20) (Od.lc (Φ := IsQ (IsI 5 qa.num) (IsI 5 ((qa.den : Int)))) 0 30) (Od.lc (Φ := IsQ (IsI 5 qb.num) (IsI 5 ((qb.den : Int)))) 1 31) (fun x0 x1 w' hE d0 d1 => Calls.mono (rqBetween_f d0 d1 (by decide) (by decide) HLE.out) fun _ _ h => h.t2q HR.out (Nat.le_refl _))) ?_
    refine Rc (mv (Od.lc 2 32)) ?_
    refine Rc (ex (Od.loc 3 29) t20) ?_
    refine Rc (ex (Od.loc 3 29) t21) ?_
    refine Rc (al al_Rat) ?_
    exact RgAll.nil
  intro v W6 e1 hΦ _
  replace S := S.mono e1
  have h33 := hΦ 4 (by decide)
  have v5 : v 5 = .int .i64 0 := hΦ 5 (by decide)
  obtain ⟨g10, v6, q6, b5, _⟩ := (hΦ 6 (by decide) : IsBo W5 2 (v 6) W6)
  replace S := S.addN 2 (ApartO.old hl.out q6) (Nat.le_trans hw q6) b5
  simp only [newF, List.cons_append, List.nil_append] at S
  simp only [layL, Act.put, List.setIfInBounds_toArray, List.set_cons_zero, List.set_cons_succ, Nat.reduceAdd]
  rw [v5, v6]
  clear b5 hl hw v5 v6 hΦ e1
  try simp only [List.drop_succ_cons, List.drop_zero]
  (with_reducible refine stL ?_ (by rfl)); intro KK hKK; refine stQ S 1 0 (g10) 0 h33 (IsI.gstb _ _) (IsI.gstb _ _) st_Rat (fun W7 S2 G2 => hKK _ _ ?_) rfl rfl
  replace S := S2; clear S2 G2 hKK KK h33
  simp only [List.set_cons_zero, List.set_cons_succ] at S
  refine wpList_step fun K hK => ?_; go_simp; refine hK _ _ ?_; clear hK K
  refine wpList_nil ?_
  go_upto_region 7 with (fail)
  refine rgs 9 [some 35, some 36, some 37, some 38, some 39, some 40, some 41, some 42, some 43] [IsV (.int .i64 0), IsV (.int .i64 0), IsV (.bool false), IsV (.bool false), IsQ (IsI 5 r.num) (IsI 5 ((r.den : Int))), IsQ (IsI 5 r.num) (IsI 5 ((r.den : Int))), IsV (.bool true), IsV (.bool false), IsV (.bool false)] [] ?_ ?_
  · refine Rc (mv (Od.lit 9)) ?_
    refine Rc (mv (Od.lit 11)) ?_
    refine Rc (bn (r := .bool false) (Od.loc 0 35) (Od.loc 1 36) (hr := fun w => by go_simp)) ?_
    refine Rc (mv (Od.lc 2 37)) ?_
    refine RcG 3 38 false (ldQ S 3 2 (g8) 0 (Od.lit 8) ld_Rat rfl rfl) ?_
    refine RcG 3 38 false (ldQ S 1 0 (g10) 0 (Od.lit 10) ld_Rat rfl rfl) ?_
    refine RcG 3 38 false (cl2 (en Tryz.func18) (Od.lc (Φ := IsQ (IsI 5 r.num) (IsI 5 ((r.den : Int)))) 4 39) (Od.lc (Φ := IsQ (IsI 5 r.num) (IsI 5 ((r.den : Int)))) 5 40) (fun x0 x1 w' hE d0 d1 => rqSame_eq d0 d1 (by decide) (rfl))) ?_
    refine RcG 3 38 false (nt (Od.loc 6 41)) ?_
    refine Rc (pk (Od.loc 3 38) (Od.lc 7 42)) ?_
    exact RgAll.nil
  intro v W8 e1 hΦ _
  replace S := S.mono e1
  have v8 : v 8 = .bool false := hΦ 8 (by decide)
  simp only [layL, Act.put, List.setIfInBounds_toArray, List.set_cons_zero, List.set_cons_succ, Nat.reduceAdd]
  rw [v8]
  clear v8 hΦ e1
  refine wpList_nil ?_
  go_upto_region 9 with (fail)
  refine rgs 2 [some 44, some 45] [IsV (.int .i64 0), IsV (.bool false)] [] ?_ ?_
  · refine Rc (mv (Od.lit 9)) ?_
    refine Rc (bn (r := .bool false) (Od.loc 0 44) Od.con (hr := fun w => by go_simp)) ?_
    exact RgAll.nil
  intro v W9 e1 hΦ _
  replace S := S.mono e1
  have v1 : v 1 = .bool false := hΦ 1 (by decide)
  simp only [layL, Act.put, List.setIfInBounds_toArray, List.set_cons_zero, List.set_cons_succ, Nat.reduceAdd]
  rw [v1]
  clear v1 hΦ e1
  refine wpList_nil ?_
  go_upto_region 11 with (fail)
  refine rgs 6 [some 57, some 58, some 59, some 60, some 61, some 62] [IsQ (IsI 5 qa.num) (IsI 5 ((qa.den : Int))), IsQ (IsI 5 qb.num) (IsI 5 ((qb.den : Int))), IsJ (IsI 5 qa.num) (IsI 5 ((qa.den : Int))) (IsI 5 qb.num) (IsI 5 ((qb.den : Int))), IsQ (IsI 5 r.num) (IsI 5 ((r.den : Int))), IsV (.bool true), IsV (.bool false)] [] ?_ ?_
  · refine Rc (ldQ S 7 6 (g6) 0 (Od.lit 6) ld_Rat rfl rfl) ?_
    refine Rc (ldQ S 5 4 (g7) 0 (Od.lit 7) ld_Rat rfl rfl) ?_
    refine Rc (bj (Od.loc 0 57) (Od.loc 1 58) bd_Iv) ?_
    refine Rc (ldQ S 3 2 (g8) 0 (Od.lit 8) ld_Rat rfl rfl) ?_
    refine Rc (cl2 (en Tryz.func22) (Od.lc (Φ := IsJ (IsI 5 qa.num) (IsI 5 ((qa.den : Int))) (IsI 5 qb.num) (IsI 5 ((qb.den : Int)))) 2 59) (Od.lc (Φ := IsQ (IsI 5 r.num) (IsI 5 ((r.den : Int)))) 3 60) (fun x0 x1 w' hE d0 d1 => Calls.mono (rqHas_f d0 d1 (by decide)) fun _ _ h => RetB h HH.out)) ?_
    refine Rc (nt (Od.loc 4 61)) ?_
    exact RgAll.nil
  intro v W10 e1 hΦ _
  replace S := S.mono e1
  have v5 : v 5 = .bool false := hΦ 5 (by decide)
  simp only [layL, Act.put, List.setIfInBounds_toArray, List.set_cons_zero, List.set_cons_succ, Nat.reduceAdd]
  rw [v5]
  clear v5 hΦ e1
  refine wpList_nil ?_
  go_upto_region 13 with (fail)
  refine rgs 1 [some 12] [IsV (.int .i64 1)] [] ?_ ?_
  · refine Rc (mv Od.con) ?_
    exact RgAll.nil
  intro v W11 e1 hΦ _
  replace S := S.mono e1
  have v0 : v 0 = .int .i64 1 := hΦ 0 (by decide)
  simp only [layL, Act.put, List.setIfInBounds_toArray, List.set_cons_zero, List.set_cons_succ]
  rw [v0]
  clear v0 hΦ e1
  refine wpList_nil ?_
  go_wp2_with fail
  have S0 := hid S; clear S
  go_loopg [12] 60 (fun gk v12 wr => ∃ i : Nat, v12 = .int .i64 ((i : Int) + 1) ∧ i + gk = 60 ∧ Hid (Sto w wr [((g10, 1), IsI 5 ((r.den : Int))), ((g10, 0), IsI 5 r.num), ((g8, 1), IsI 5 ((r.den : Int))), ((g8, 0), IsI 5 r.num), ((g7, 1), IsI 5 ((qb.den : Int))), ((g7, 0), IsI 5 qb.num), ((g6, 1), IsI 5 ((qa.den : Int))), ((g6, 0), IsI 5 qa.num), ((w.heap.size + 1, 1), IsR s2y x2d), ((w.heap.size + 1, 0), IsR s2x x2n), ((w.heap.size, 1), IsR s1y x1d), ((w.heap.size, 0), IsR s1x x1n)]))
  case atStart => exact ⟨0, rfl, by omega, S0⟩
  case round =>
    clear S0
    obtain ⟨i, rfl, hn, S⟩ := hrel
    have S := S.out
    have HOF := hid (show -9223372036854775808 ≤ (i : Int) + 1 ∧ (i : Int) + 1 ≤ 9223372036854775807 by omega)
    obtain ⟨cd, hcd⟩ : ∃ c, cmpI ((i : Int) + 1) (r.den : Int) = c := ⟨_, rfl⟩
    have HCD := hid hcd
    obtain ⟨b6, hb6⟩ : ∃ b, decide ((i : Int) + 1 ≤ 60) = b := ⟨_, rfl⟩
    have HB6 := hid hb6
    obtain ⟨bd, hbd⟩ : ∃ b, decide (cd < 0) = b := ⟨_, rfl⟩
    have HBD := hid hbd
    by_cases hgo : i + 1 ≤ 60 ∧ i + 1 < r.den
    · skip
      have hcl : cd < 0 := by rw [← hcd, cmpI_lt (by omega)]; decide
      obtain rfl : b6 = true := by rw [← hb6]; exact decide_eq_true (by omega)
      obtain rfl : bd = true := by rw [← hbd]; exact decide_eq_true hcl
      have HHN := hid hn
      have HADD := hid (show IntKind.i64.wrap ((i : Int) + 1 + 1) = (i : Int) + 1 + 1 by simp only [IntKind.wrap_i64]; omega)
      obtain ⟨lw, hlw⟩ : ∃ l, (qb * Rat.divInt ((i : Int) + 1) 1).floor = l := ⟨_, rfl⟩
      have HLW := hid hlw
      obtain ⟨cm, hcm⟩ : ∃ c, cmpQ (lw : Rat) (qa * Rat.divInt ((i : Int) + 1) 1) = c := ⟨_, rfl⟩
      have HCM := hid hcm
      have HCM1 := hid (show decide (0 ≤ cm) = false by rw [← hcm, ← hlw]; exact low_lt HSI.out i hgo.2)
      have HGK := hid hgo
      clear hn hcd hb6 hbd hcl hlw hcm hgo
      go_upto_region 14 with (fail)
      refine rg 10 [some 63, some 64, some 65, some 66, some 67, some 68, some 69, some 70, some 71, some 72] [IsV (.int .i64 ((i : Int) + 1)), IsV (.bool true), IsV (.bool true), IsV (.int .i64 ((i : Int) + 1)), IsI 2 (((i : Int) + 1)), IsV (.pointer (some ⟨g8, 2, none⟩)), IsI 5 ((r.den : Int)), IsV (.int .i64 cd), IsV (.bool true), IsV (.bool true)] [] 0 ?_ ?_
      · refine Rc (mv (Od.lit 12)) ?_
        refine Rc (bn (r := .bool true) (Od.loc 0 63) Od.con (hr := fun w => by have hx9 := HB6.out; go_simp)) ?_
        refine Rc (mv (Od.lc 1 64)) ?_
        refine RcG 2 65 true (mv (Od.lit 12)) ?_
        refine RcG 2 65 true (cl1 (en Tryz.func24) (Od.lc (Φ := IsV (.int .i64 ((i : Int) + 1))) 3 66) (fun x0 w' hE d0 => by { obtain rfl : x0 = .int .i64 ((i : Int) + 1) := d0; exact ROf_f _ ((i : Int) + 1) HOF.out.1 HOF.out.2 })) ?_
        refine RcG 2 65 true (fa (fa_Rat1 (g8) 0) (Od.lit 8)) ?_
        refine RcG 2 65 true (ldI S 2 (g8) 1 (Od.lc 5 68) ld_Int) ?_
        refine RcG 2 65 true (cl2 (en Tryz.func23) (Od.lc (Φ := IsI 2 (((i : Int) + 1))) 4 67) (Od.lc (Φ := IsI 5 ((r.den : Int))) 6 69) (fun x0 x1 w' hE d0 d1 => Calls.mono (RCmp_f d0 d1 (by decide) (by decide)) fun _ _ h => h.int HCD.out)) ?_
        refine RcG 2 65 true (bn (r := .bool true) (Od.loc 7 70) Od.con (hr := fun w => by have hx9 := HBD.out; go_simp)) ?_
        refine Rc (pk (Od.loc 2 65) (Od.lc 8 71)) ?_
        exact RgAll.nil
      intro v W12 e1 hΦ _
      replace S := S.mono e1
      have v9 : v 9 = .bool true := hΦ 9 (by decide)
      simp only [layL, Act.put, List.setIfInBounds_toArray, List.set_cons_zero, List.set_cons_succ, Nat.reduceAdd]
      rw [v9]
      clear v9 hΦ e1
      refine wpAny_done (by kernel_rfl) ?_ _
      go_upto_region 16 with (fail)
      have hl := hid S.lt; have hw := S.ext.size
      refine rgn 7 [some 75, some 76, some 77, some 78, some 79, some 13, none] [IsQ (IsI 5 qb.num) (IsI 5 ((qb.den : Int))), IsV (.int .i64 ((i : Int) + 1)), IsQ (IsI 2 ((Rat.divInt ((i : Int) + 1) 1).num)) (IsI 2 (((Rat.divInt ((i : Int) + 1) 1).den : Int))), IsQ (IsI 7 ((qb * Rat.divInt ((i : Int) + 1) 1).num)) (IsI 7 (((qb * Rat.divInt ((i : Int) + 1) 1).den : Int))), IsI 7 lw, IsNw W12 1, TT] [5] [none, none, none, none, none, none, some (5, [IsI 7 lw])] [none, none, none, none, none, none, some 5] 0 ?_ ?_
      · refine RcK (ldQ S 5 4 (g7) 0 (Od.lit 7) ld_Rat rfl rfl) ?_
        refine RcK (mv (Od.lit 12)) ?_
        refine RcK (cl2 (en Tryz.func27) (Od.lc (Φ := IsV (.int .i64 ((i : Int) + 1))) 1 76) Od.con (fun x0 x1 w' hE d0 d1 => by { obtain rfl : x0 = .int .i64 ((i : Int) + 1) := d0; obtain rfl : x1 = .int .i64 1 := d1; exact rqOf_f w' ((i : Int) + 1) 1 HOF.out (by decide) (by decide) })) ?_
        refine RcK (cl2 (en Tryz.func26) (Od.lc (Φ := IsQ (IsI 5 qb.num) (IsI 5 ((qb.den : Int)))) 0 75) (Od.lc (Φ := IsQ (IsI 2 ((Rat.divInt ((i : Int) + 1) 1).num)) (IsI 2 (((Rat.divInt ((i : Int) + 1) 1).den : Int)))) 2 77) (fun x0 x1 w' hE d0 d1 => rqMul_f d0 d1 (by decide) (by decide))) ?_
        refine RcK (cl1 (en Tryz.func25) (Od.lc (Φ := IsQ (IsI 7 ((qb * Rat.divInt ((i : Int) + 1) 1).num)) (IsI 7 (((qb * Rat.divInt ((i : Int) + 1) 1).den : Int)))) 3 78) (fun x0 w' hE d0 => Calls.mono (rqFloor_f d0 (by decide)) fun _ _ h => h.eqz HLW.out)) ?_
        refine RcK (alN al_Int) ?_
        refine RcS 5 (sI st_Int (Od.lc (Φ := IsI 7 lw) 4 79)) ?_
        exact RgAllN.nil
      intro v W13 e1 hΦ hS _
      replace S := S.mono e1
      obtain ⟨g13, v5, q7, S2⟩ := S.addI (hΦ 5 (by decide) rfl) (hS 6 (by decide) _ _ rfl) hw (IsI.gstb _ _)
      replace S := S2 (ApartO.old hl.out q7); clear S2
      simp only [layL, Act.put, List.setIfInBounds_toArray, List.set_cons_zero, List.set_cons_succ, Nat.reduceAdd]
      rw [v5]
      clear hl hw v5 hΦ hS e1
      refine wpAny_done (by kernel_rfl) ?_ _
      go_upto_region 17 with (fail)
      refine rg 8 [some 80, some 81, some 82, some 83, some 84, some 85, some 86, some 87] [IsI 7 lw, IsQ (IsI 7 lw) (IsI 2 1), IsQ (IsI 5 qa.num) (IsI 5 ((qa.den : Int))), IsV (.int .i64 ((i : Int) + 1)), IsQ (IsI 2 ((Rat.divInt ((i : Int) + 1) 1).num)) (IsI 2 (((Rat.divInt ((i : Int) + 1) 1).den : Int))), IsQ (IsI 7 ((qa * Rat.divInt ((i : Int) + 1) 1).num)) (IsI 7 (((qa * Rat.divInt ((i : Int) + 1) 1).den : Int))), IsV (.int .i64 cm), IsV (.bool false)] [] 0 ?_ ?_
      · refine Rc (ldI S 0 (g13) 0 (Od.lit 13) ld_Int) ?_
        refine Rc (cl1 (en Tryz.func29) (Od.lc (Φ := IsI 7 lw) 0 80) (fun x0 w' hE d0 => rqWhole_c d0)) ?_
        refine Rc (ldQ S 8 7 (g6) 0 (Od.lit 6) ld_Rat rfl rfl) ?_
        refine Rc (mv (Od.lit 12)) ?_
        refine Rc (cl2 (en Tryz.func27) (Od.lc (Φ := IsV (.int .i64 ((i : Int) + 1))) 3 83) Od.con (fun x0 x1 w' hE d0 d1 => by { obtain rfl : x0 = .int .i64 ((i : Int) + 1) := d0; obtain rfl : x1 = .int .i64 1 := d1; exact rqOf_f w' ((i : Int) + 1) 1 HOF.out (by decide) (by decide) })) ?_
        refine Rc (cl2 (en Tryz.func26) (Od.lc (Φ := IsQ (IsI 5 qa.num) (IsI 5 ((qa.den : Int)))) 2 82) (Od.lc (Φ := IsQ (IsI 2 ((Rat.divInt ((i : Int) + 1) 1).num)) (IsI 2 (((Rat.divInt ((i : Int) + 1) 1).den : Int)))) 4 84) (fun x0 x1 w' hE d0 d1 => rqMul_f d0 d1 (by decide) (by decide))) ?_
        refine Rc (cl2 (en Tryz.func28) (Od.lc (Φ := IsQ (IsI 7 lw) (IsI 2 1)) 1 81) (Od.lc (Φ := IsQ (IsI 7 ((qa * Rat.divInt ((i : Int) + 1) 1).num)) (IsI 7 (((qa * Rat.divInt ((i : Int) + 1) 1).den : Int)))) 5 85) (fun x0 x1 w' hE d0 d1 => Calls.mono (rqCmp_f (isQ_intz d0 (by decide)) d1 (by decide) (by decide)) fun _ _ h => h.int HCM.out)) ?_
        refine Rc (bn (r := .bool false) (Od.loc 6 86) Od.con (hr := fun w => by have hx9 := HCM1.out; go_simp)) ?_
        exact RgAll.nil
      intro v W14 e1 hΦ _
      replace S := S.mono e1
      have v7 : v 7 = .bool false := hΦ 7 (by decide)
      simp only [layL, Act.put, List.setIfInBounds_toArray, List.set_cons_zero, List.set_cons_succ, Nat.reduceAdd]
      rw [v7]
      clear v7 hΦ e1
      refine wpAny_done (by kernel_rfl) ?_ _
      have hx9 := HADD.out
      have S' := hid (S.drop 1); clear S
      go_wp2_with fail
      go_roundg (gk - 1)
      case measure => have := HHN.out; have := HGK.out.1; omega
      case rel => exact ⟨i + 1, by rw [Int.natCast_add]; rfl, by have := HHN.out; have := HGK.out.1; omega, S'⟩
    · skip
      have HEX := hid (show (b6 && bd) = false by
        rw [← hb6, ← hbd, ← hcd, Bool.eq_false_iff]
        intro k
        simp only [Bool.and_eq_true, decide_eq_true_eq] at k
        refine hgo ⟨by omega, ?_⟩
        have k2 := k.2
        unfold cmpI at k2
        split at k2
        · omega
        · split at k2 <;> omega)
      clear hn hcd hb6 hbd hgo
      go_upto_region 14 with (fail)
      refine rg 10 [some 63, some 64, some 65, some 66, some 67, some 68, some 69, some 70, some 71, some 72] [IsV (.int .i64 ((i : Int) + 1)), IsV (.bool b6), IsV (.bool b6), IsIf (b6) (IsV (.int .i64 ((i : Int) + 1))), IsIf (b6) (IsI 2 (((i : Int) + 1))), IsIf (b6) (IsV (.pointer (some ⟨g8, 2, none⟩))), IsIf (b6) (IsI 5 ((r.den : Int))), IsIf (b6) (IsV (.int .i64 cd)), IsIf (b6) (IsV (.bool bd)), IsV (.bool false)] [] 0 ?_ ?_ (hst := by repeat' (first | exact trivial | apply IsIf.stb | exact IsV.stb _ | exact IsI.stb _ _ | apply IsJ.stb | apply IsQ.stb | apply And.intro))
      · refine Rc (mv (Od.lit 12)) ?_
        refine Rc (bn (r := .bool b6) (Od.loc 0 63) Od.con (hr := fun w => by have hx9 := HB6.out; go_simp)) ?_
        refine Rc (mv (Od.lc 1 64)) ?_
        refine RcB 2 65 b6 true (fun hb => by subst hb; exact mv (Od.lit 12)) ?_
        refine RcB 2 65 b6 true (fun hb => by subst hb; exact cl1 (en Tryz.func24) (Od.lc (Φ := IsV (.int .i64 ((i : Int) + 1))) 3 66) (fun x0 w' hE d0 => by { obtain rfl : x0 = .int .i64 ((i : Int) + 1) := d0; exact ROf_f _ ((i : Int) + 1) HOF.out.1 HOF.out.2 })) ?_
        refine RcB 2 65 b6 true (fun hb => by subst hb; exact fa (fa_Rat1 (g8) 0) (Od.lit 8)) ?_
        refine RcB 2 65 b6 true (fun hb => by subst hb; exact ldI S 2 (g8) 1 (Od.lc 5 68) ld_Int) ?_
        refine RcB 2 65 b6 true (fun hb => by subst hb; exact cl2 (en Tryz.func23) (Od.lc (Φ := IsI 2 (((i : Int) + 1))) 4 67) (Od.lc (Φ := IsI 5 ((r.den : Int))) 6 69) (fun x0 x1 w' hE d0 d1 => Calls.mono (RCmp_f d0 d1 (by decide) (by decide)) fun _ _ h => h.int HCD.out)) ?_
        refine RcB 2 65 b6 true (fun hb => by subst hb; exact bn (r := .bool bd) (Od.loc 7 70) Od.con (hr := fun w => by have hx9 := HBD.out; go_simp)) ?_
        refine Rc (pkA (b2 := bd) (Od.loc 2 65) (fun hb => by subst hb; exact Od.lc 8 71) (HEX.out)) ?_
        exact RgAll.nil
      intro v W15 e1 hΦ _
      replace S := S.mono e1
      have v9 : v 9 = .bool false := hΦ 9 (by decide)
      simp only [layL, Act.put, List.setIfInBounds_toArray, List.set_cons_zero, List.set_cons_succ, Nat.reduceAdd]
      rw [v9]
      clear v9 hΦ e1
      refine wpAny_done (by kernel_rfl) ?_ _
      go_upto_region 19 with (fail)
      have hl := hid S.lt; have hw := S.ext.size
      refine rgn 14 [some 89, some 90, some 91, some 92, some 93, some 94, some 95, some 96, some 88, some 97, some 98, some 14, none, some 15] [IsV (.pointer (some ⟨g8, 0, none⟩)), IsI 5 r.num, IsI 5 r.num.natAbs, IsI 2 1, IsI 6 (r.num.natAbs - 1), IsV (.pointer (some ⟨g8, 2, none⟩)), IsI 5 ((r.den : Int)), IsT2 (IsQ (IsI 8 nr.num) (IsI 8 ((nr.den : Int)))) (IsV (.int .i64 0)), IsT2 (IsQ (IsI 8 nr.num) (IsI 8 ((nr.den : Int)))) (IsV (.int .i64 0)), IsQ (IsI 8 nr.num) (IsI 8 ((nr.den : Int))), IsV (.int .i64 0), IsNw W15 2, TT, IsV (.int .i64 0)] [11] [none, none, none, none, none, none, none, none, none, none, none, none, some (11, [IsI 8 nr.num, IsI 8 ((nr.den : Int))]), none] [none, none, none, none, none, none, none, none, none, none, none, none, some 11, none] 0 ?_ ?_
      · refine RcK (fa (fa_Rat0 (g8) 0) (Od.lit 8)) ?_
        refine RcK (ldI S 3 (g8) 0 (Od.lc 0 89) ld_Int) ?_
        refine RcK (cl1 (en Tryz.func32) (Od.lc (Φ := IsI 5 r.num) 1 90) (fun x0 w' hE d0 => RAbs_f d0)) ?_
        refine RcK (cl1 (en Tryz.func24) Od.con (fun x0 w' hE d0 => by { obtain rfl : x0 = .int .i64 1 := d0; exact ROf_f _ 1 (by decide) (by decide) })) ?_
        refine RcK (cl2 (en Tryz.func31) (Od.lc (Φ := IsI 5 r.num.natAbs) 2 91) (Od.lc (Φ := IsI 2 1) 3 92) (fun x0 x1 w' hE d0 d1 => RSub_f d0 d1 (by decide) (by decide))) ?_
        refine RcK (fa (fa_Rat1 (g8) 0) (Od.lit 8)) ?_
        refine RcK (ldI S 2 (g8) 1 (Od.lc 5 94) ld_Int) ?_
        refine RcK (cl2 (en Tryz.func30) (Od.lc (Φ := IsI 6 (r.num.natAbs - 1)) 4 93) (Od.lc (Φ := IsI 5 ((r.den : Int))) 6 95) (fun x0 x1 w' hE d0 d1 => Calls.mono (qNew_f d0 d1 (by decide) (by decide) HDN.out) fun _ _ h => h.t2q HNR.out (Nat.le_refl _))) ?_
        refine RcK (mv (Od.lc 7 96)) ?_
        refine RcK (ex (Od.loc 8 88) t20) ?_
        refine RcK (ex (Od.loc 8 88) t21) ?_
        refine RcK (alN al_Rat) ?_
        refine RcS 11 (sQ st_Rat (Od.lc (Φ := IsQ (IsI 8 nr.num) (IsI 8 ((nr.den : Int)))) 9 97) (IsI.gstb _ _) (IsI.gstb _ _)) ?_
        refine RcK (mv (Od.lc 10 98)) ?_
        exact RgAllN.nil
      intro v W16 e1 hΦ hS _
      replace S := S.mono e1
      obtain ⟨g14, v11, q8, S2⟩ := S.addQ (hΦ 11 (by decide) rfl) (hS 12 (by decide) _ _ rfl) hw (IsI.gstb _ _) (IsI.gstb _ _)
      replace S := S2 (ApartO.old hl.out q8); clear S2
      have v13 : v 13 = .int .i64 0 := hΦ 13 (by decide) rfl
      simp only [layL, Act.put, List.setIfInBounds_toArray, List.set_cons_zero, List.set_cons_succ, Nat.reduceAdd]
      rw [v11, v13]
      clear hl hw v11 v13 hΦ hS e1
      refine wpAny_done (by kernel_rfl) ?_ _
      go_upto_region 20 with (fail)
      refine rgs 8 [some 99, some 100, some 101, some 102, some 103, some 104, some 105, some 106] [IsV (.pointer (some ⟨g8, 0, none⟩)), IsI 5 r.num, IsV (.int .i64 sg), IsV (.bool false), IsV (.bool false), IsV (.int .i64 0), IsV (.bool false), IsV (.bool false)] [] ?_ ?_
      · refine Rc (fa (fa_Rat0 (g8) 0) (Od.lit 8)) ?_
        refine Rc (ldI S 5 (g8) 0 (Od.lc 0 99) ld_Int) ?_
        refine Rc (cl1 (en Tryz.func33) (Od.lc (Φ := IsI 5 r.num) 1 100) (fun x0 w' hE d0 => Calls.mono (RSign_f d0) fun _ _ h => h.int (HSG.out))) ?_
        refine Rc (bn (r := .bool false) (Od.loc 2 101) Od.con (hr := fun w => by have hx9 := HSZ.out; go_simp)) ?_
        refine Rc (mv (Od.lc 3 102)) ?_
        refine RcG 4 103 false (mv (Od.lit 15)) ?_
        refine RcG 4 103 false (bn (r := .bool false) (Od.loc 5 104) Od.con (hr := fun w => by go_simp)) ?_
        refine Rc (pk (Od.loc 4 103) (Od.lc 6 105)) ?_
        exact RgAll.nil
      intro v W17 e1 hΦ _
      replace S := S.mono e1
      have v7 : v 7 = .bool false := hΦ 7 (by decide)
      simp only [layL, Act.put, List.setIfInBounds_toArray, List.set_cons_zero, List.set_cons_succ, Nat.reduceAdd]
      rw [v7]
      clear v7 hΦ e1
      refine wpList_nil ?_
      go_upto_region 22 with (fail)
      refine rgs 4 [some 114, some 115, some 116, some 117] [IsV (.pointer (some ⟨g8, 0, none⟩)), IsI 5 r.num, IsV (.int .i64 sg), IsV (.bool false)] [] ?_ ?_
      · refine Rc (fa (fa_Rat0 (g8) 0) (Od.lit 8)) ?_
        refine Rc (ldI S 5 (g8) 0 (Od.lc 0 114) ld_Int) ?_
        refine Rc (cl1 (en Tryz.func33) (Od.lc (Φ := IsI 5 r.num) 1 115) (fun x0 w' hE d0 => Calls.mono (RSign_f d0) fun _ _ h => h.int (HSG.out))) ?_
        refine Rc (bn (r := .bool false) (Od.loc 2 116) Od.con (hr := fun w => by have hx9 := HSN.out; go_simp)) ?_
        exact RgAll.nil
      intro v W18 e1 hΦ _
      replace S := S.mono e1
      have v3 : v 3 = .bool false := hΦ 3 (by decide)
      simp only [layL, Act.put, List.setIfInBounds_toArray, List.set_cons_zero, List.set_cons_succ, Nat.reduceAdd]
      rw [v3]
      clear v3 hΦ e1
      refine wpList_nil ?_
      go_upto_region 24 with (fail)
      refine rgs 10 [some 120, some 121, some 122, some 123, some 124, some 125, some 126, some 127, some 128, some 4] [IsQ (IsI 5 qa.num) (IsI 5 ((qa.den : Int))), IsQ (IsI 5 qb.num) (IsI 5 ((qb.den : Int))), IsJ (IsI 5 qa.num) (IsI 5 ((qa.den : Int))) (IsI 5 qb.num) (IsI 5 ((qb.den : Int))), IsQ (IsI 8 nr.num) (IsI 8 ((nr.den : Int))), IsV (.bool false), IsV (.bool true), IsV (.bool true), IsV (.bool true), IsV (.bool true), IsV (.bool true)] [] ?_ ?_
      · refine Rc (ldQ S 9 8 (g6) 0 (Od.lit 6) ld_Rat rfl rfl) ?_
        refine Rc (ldQ S 7 6 (g7) 0 (Od.lit 7) ld_Rat rfl rfl) ?_
        refine Rc (bj (Od.loc 0 120) (Od.loc 1 121) bd_Iv) ?_
        refine Rc (ldQ S 1 0 (g14) 0 (Od.lit 14) ld_Rat rfl rfl) ?_
        refine Rc (cl2 (en Tryz.func22) (Od.lc (Φ := IsJ (IsI 5 qa.num) (IsI 5 ((qa.den : Int))) (IsI 5 qb.num) (IsI 5 ((qb.den : Int)))) 2 122) (Od.lc (Φ := IsQ (IsI 8 nr.num) (IsI 8 ((nr.den : Int)))) 3 123) (fun x0 x1 w' hE d0 d1 => Calls.mono (rqHas_f d0 d1 (by decide)) fun _ _ h => RetB h HNO.out)) ?_
        refine Rc (nt (Od.loc 4 124)) ?_
        refine Rc (mv (Od.lc 5 125)) ?_
        refine RcG 6 126 true (mv (Od.lit 5)) ?_
        refine Rc (pk (Od.loc 6 126) (Od.lc 7 127)) ?_
        refine Rc (mv (Od.lc 8 128)) ?_
        exact RgAll.nil
      intro v W19 e1 hΦ _
      replace S := S.mono e1
      have v9 : v 9 = .bool true := hΦ 9 (by decide)
      simp only [layL, Act.put, List.setIfInBounds_toArray, List.set_cons_zero, List.set_cons_succ, Nat.reduceAdd]
      rw [v9]
      clear v9 hΦ e1
      refine wpList_nil ?_
      go_wp2_with fail
      exact bodyPost_ret (v := .bool true) (by simp [results, Tryz.results4, go_sem]) rfl (⟨_, rfl, S.ext, rfl⟩)
set_option maxRecDepth 100000 in
set_option maxHeartbeats 8000000 in
theorem Simplest_n (w : World) (s1x s1y s2x s2y : Bool) (a1x a1y a2x a2y : Option Addr) (n1x n1y c1x c1y n2x n2y c2x c2y : Nat) (x1n x1d x2n x2d : List Nat) (h1x : Wd w a1x n1x c1x x1n) (h1y : Wd w a1y n1y c1y x1d) (h2x : Wd w a2x n2x c2x x2n) (h2y : Wd w a2y n2y c2y x2d) (ht : Tab w) (qa qb r nr : Rat) (sg : Int) (Ha : Hid (madeQ s1x s1y x1n x1d 3 = qa)) (Hb : Hid (madeQ s2x s2y x2n x2d 3 = qb)) (HLE : Hid (qa ≤ qb)) (HR : Hid (btwQ qa qb = r)) (HSI : Hid (Simp qa qb r)) (HH : Hid (hasQ qa qb r = true)) (HDN : Hid ((r.den : Int) ≠ 0)) (HNR : Hid (Rat.divInt ((r.num.natAbs : Int) - 1) (r.den : Int) = nr)) (HSG : Hid (r.num.sign = sg)) (HSZ : Hid ((sg == 0) = false)) (HSN : Hid (decide (sg < 0) = true)) (HNO : Hid (hasQ qa qb (-nr) = false)) :
    Calls Tryz.prog 4 #[.agg #[.bool s1x, .slice a1x n1x c1x, .bool s1y, .slice a1y n1y c1y], .agg #[.bool s2x, .slice a2x n2x c2x, .bool s2y, .slice a2y n2y c2y]] w (Ret w (IsV (.bool true))) := by
  obtain ⟨W, hW, S⟩ : ∃ W, W = (w.alloc (.cells #[.bool s1x, .slice a1x n1x c1x, .bool s1y, .slice a1y n1y c1y] 26)).alloc (.cells #[.bool s2x, .slice a2x n2x c2x, .bool s2y, .slice a2y n2y c2y] 26) ∧ Sto w W [((w.heap.size + 1, 1), IsR s2y x2d), ((w.heap.size + 1, 0), IsR s2x x2n), ((w.heap.size, 1), IsR s1y x1d), ((w.heap.size, 0), IsR s1x x1n)] := ⟨_, rfl, (((Sto.start w).new2 (w.heap.size) (by simp) s1x s1y a1x a1y n1x c1x n1y c1y 26 (IsR s1x x1n) (IsR s1y x1d) (IsR.gstb _ _) (⟨_, _, _, rfl, h1x⟩) (IsR.gstb _ _) (⟨_, _, _, rfl, h1y⟩)).new2 (w.heap.size + 1) (by simp) s2x s2y a2x a2y n2x c2x n2y c2y 26 (IsR s2x x2n) (IsR s2y x2d) (IsR.gstb _ _) (⟨_, _, _, rfl, (h2x.ext ((Ext.refl _).alloc _))⟩) (IsR.gstb _ _) (⟨_, _, _, rfl, (h2y.ext ((Ext.refl _).alloc _))⟩))⟩
  clear h1x h1y h2x h2y
  go_enter Tryz.func4, Tryz.ntmps4
  go_upto_region 1 with (fail)
  rw [← hW]
  clear hW
  refine rgs 2 [some 16, some 5] [IsV (.bool true), IsV (.bool true)] [] ?_ ?_
  · refine Rc (cl0 (en Tryz.func12)  (fun w' hE => examplesQ_f _ (ht.ext (S.ext.trans hE)))) ?_
    refine Rc (mv (Od.lc 0 16)) ?_
    exact RgAll.nil
  intro v W1 e1 hΦ _
  replace S := S.mono e1
  have v1 : v 1 = .bool true := hΦ 1 (by decide)
  simp only [layL, Act.put, List.setIfInBounds_toArray, List.set_cons_zero, List.set_cons_succ, Nat.reduceAdd]
  rw [v1]
  clear v1 hΦ e1
  refine wpList_nil ?_
  go_upto_region 2 with (fail)
  refine rgs 2 [some 17, some 18] [IsV (.bool true), IsV (.bool false)] [] ?_ ?_
  · refine Rc (mv (Od.lit 5)) ?_
    refine Rc (nt (Od.loc 0 17)) ?_
    exact RgAll.nil
  intro v W2 e1 hΦ _
  replace S := S.mono e1
  have v1 : v 1 = .bool false := hΦ 1 (by decide)
  simp only [layL, Act.put, List.setIfInBounds_toArray, List.set_cons_zero, List.set_cons_succ, Nat.reduceAdd]
  rw [v1]
  clear v1 hΦ e1
  refine wpList_nil ?_
  go_upto_region 4 with (fail)
  have hl := hid S.lt; have hw := S.ext.size
  refine rgn 8 [some 19, some 20, some 21, some 22, some 6, some 7, none, none] [IsQ (IsR s1x x1n) (IsR s1y x1d), IsQ (IsI 5 qa.num) (IsI 5 ((qa.den : Int))), IsQ (IsR s2x x2n) (IsR s2y x2d), IsQ (IsI 5 qb.num) (IsI 5 ((qb.den : Int))), IsNw W2 2, IsNw W2 2, TT, TT] [4, 5] [none, none, none, none, none, none, some (4, [IsI 5 qa.num, IsI 5 ((qa.den : Int))]), some (5, [IsI 5 qb.num, IsI 5 ((qb.den : Int))])] [none, none, none, none, none, none, some 4, some 5] 0 ?_ ?_
  · refine RcK (ldQ S 3 2 (w.heap.size) 0 (Od.lit 2) ld_RawQ rfl rfl) ?_
    refine RcK (cl2 (en Tryz.func13) (Od.lc (Φ := IsQ (IsR s1x x1n) (IsR s1y x1d)) 0 19) Od.con (fun x0 x1 w' hE d0 d1 => by { obtain rfl : x1 = .int .i64 3 := d1; exact Calls.mono (rqMade_f d0 3 (by decide)) fun _ _ h => h.ratz Ha.out (Nat.le_refl _) })) ?_
    refine RcK (ldQ S 1 0 (w.heap.size + 1) 0 (Od.lit 3) ld_RawQ rfl rfl) ?_
    refine RcK (cl2 (en Tryz.func13) (Od.lc (Φ := IsQ (IsR s2x x2n) (IsR s2y x2d)) 2 21) Od.con (fun x0 x1 w' hE d0 d1 => by { obtain rfl : x1 = .int .i64 3 := d1; exact Calls.mono (rqMade_f d0 3 (by decide)) fun _ _ h => h.ratz Hb.out (Nat.le_refl _) })) ?_
    refine RcK (alN al_Rat) ?_
    refine RcK (alN al_Rat) ?_
    refine RcS 4 (sQ st_Rat (Od.lc (Φ := IsQ (IsI 5 qa.num) (IsI 5 ((qa.den : Int)))) 1 20) (IsI.gstb _ _) (IsI.gstb _ _)) ?_
    refine RcS 5 (sQ st_Rat (Od.lc (Φ := IsQ (IsI 5 qb.num) (IsI 5 ((qb.den : Int)))) 3 22) (IsI.gstb _ _) (IsI.gstb _ _)) ?_
    exact RgAllN.nil
  intro v W3 e1 hΦ hS hne
  replace S := S.mono e1
  obtain ⟨g6, v4, q1, S2⟩ := S.addQ (hΦ 4 (by decide) rfl) (hS 6 (by decide) _ _ rfl) hw (IsI.gstb _ _) (IsI.gstb _ _)
  replace S := S2 (ApartO.old hl.out q1); clear S2
  obtain ⟨g7, v5, q2, S2⟩ := S.addQ (hΦ 5 (by decide) rfl) (hS 7 (by decide) _ _ rfl) hw (IsI.gstb _ _) (IsI.gstb _ _)
  replace S := S2 (ApartO.cons (fun h => hne 4 5 (by decide) (by decide) (by decide) (by decide) (by decide) rfl rfl (by rw [v4, v5, h])) (ApartO.cons (fun h => hne 4 5 (by decide) (by decide) (by decide) (by decide) (by decide) rfl rfl (by rw [v4, v5, h])) (ApartO.old hl.out q2))); clear S2
  simp only [layL, Act.put, List.setIfInBounds_toArray, List.set_cons_zero, List.set_cons_succ, Nat.reduceAdd]
  rw [v4, v5]
  clear hl hw hne v4 v5 hΦ hS e1
  refine wpAny_done (by kernel_rfl) ?_ _
  go_upto_region 5 with (fail)
  have hl := hid S.lt; have hw := S.ext.size
  refine rgs 7 [some 24, some 25, some 26, some 23, some 27, some 28, some 8] [IsQ (IsI 5 qa.num) (IsI 5 ((qa.den : Int))), IsQ (IsI 5 qb.num) (IsI 5 ((qb.den : Int))), IsT2 (IsQ (IsI 5 r.num) (IsI 5 ((r.den : Int)))) (IsV (.int .i64 0)), IsT2 (IsQ (IsI 5 r.num) (IsI 5 ((r.den : Int)))) (IsV (.int .i64 0)), IsQ (IsI 5 r.num) (IsI 5 ((r.den : Int))), IsV (.int .i64 0), IsBo W3 2] [6] ?_ ?_
  · refine Rc (ldQ S 3 2 (g6) 0 (Od.lit 6) ld_Rat rfl rfl) ?_
    refine Rc (ldQ S 1 0 (g7) 0 (Od.lit 7) ld_Rat rfl rfl) ?_
    refine Rc (cl2 (en Tryz.func19) (Od.lc (Φ := IsQ (IsI 5 qa.num) (IsI 5 ((qa.den : Int)))) 0 24) (Od.lc (Φ := IsQ (IsI 5 qb.num) (IsI 5 ((qb.den : Int)))) 1 25) (fun x0 x1 w' hE d0 d1 => Calls.mono (qBetween_f d0 d1 (by decide) (by decide) HLE.out) fun _ _ h => h.t2q HR.out (Nat.le_refl _))) ?_
    refine Rc (mv (Od.lc 2 26)) ?_
    refine Rc (ex (Od.loc 3 23) t20) ?_
    refine Rc (ex (Od.loc 3 23) t21) ?_
    refine Rc (al al_Rat) ?_
    exact RgAll.nil
  intro v W4 e1 hΦ _
  replace S := S.mono e1
  have h27 := hΦ 4 (by decide)
  have v5 : v 5 = .int .i64 0 := hΦ 5 (by decide)
  obtain ⟨g8, v6, q4, b3, _⟩ := (hΦ 6 (by decide) : IsBo W3 2 (v 6) W4)
  replace S := S.addN 2 (ApartO.old hl.out q4) (Nat.le_trans hw q4) b3
  simp only [newF, List.cons_append, List.nil_append] at S
  simp only [layL, Act.put, List.setIfInBounds_toArray, List.set_cons_zero, List.set_cons_succ, Nat.reduceAdd]
  rw [v5, v6]
  clear b3 hl hw v5 v6 hΦ e1
  try simp only [List.drop_succ_cons, List.drop_zero]
  (with_reducible refine stL ?_ (by rfl)); intro KK hKK; refine stQ S 1 0 (g8) 0 h27 (IsI.gstb _ _) (IsI.gstb _ _) st_Rat (fun W5 S2 G2 => hKK _ _ ?_) rfl rfl
  replace S := S2; clear S2 G2 hKK KK h27
  simp only [List.set_cons_zero, List.set_cons_succ] at S
  refine wpList_step fun K hK => ?_; go_simp; refine hK _ _ ?_; clear hK K
  refine wpList_nil ?_
  go_upto_region 6 with (fail)
  have hl := hid S.lt; have hw := S.ext.size
  refine rgs 7 [some 30, some 31, some 32, some 29, some 33, some 34, some 10] [IsQ (IsI 5 qa.num) (IsI 5 ((qa.den : Int))), IsQ (IsI 5 qb.num) (IsI 5 ((qb.den : Int))), IsT2 (IsQ (IsI 5 r.num) (IsI 5 ((r.den : Int)))) (IsV (.int .i64 0)), IsT2 (IsQ (IsI 5 r.num) (IsI 5 ((r.den : Int)))) (IsV (.int .i64 0)), IsQ (IsI 5 r.num) (IsI 5 ((r.den : Int))), IsV (.int .i64 0), IsBo W5 2] [6] ?_ ?_
  · refine Rc (ldQ S 5 4 (g6) 0 (Od.lit 6) ld_Rat rfl rfl) ?_
    refine Rc (ldQ S 3 2 (g7) 0 (Od.lit 7) ld_Rat rfl rfl) ?_
    refine Rc (cl2 (en Tryz.func20) (Od.lc (Φ := IsQ (IsI 5 qa.num) (IsI 5 ((qa.den : Int)))) 0 30) (Od.lc (Φ := IsQ (IsI 5 qb.num) (IsI 5 ((qb.den : Int)))) 1 31) (fun x0 x1 w' hE d0 d1 => Calls.mono (rqBetween_f d0 d1 (by decide) (by decide) HLE.out) fun _ _ h => h.t2q HR.out (Nat.le_refl _))) ?_
    refine Rc (mv (Od.lc 2 32)) ?_
    refine Rc (ex (Od.loc 3 29) t20) ?_
    refine Rc (ex (Od.loc 3 29) t21) ?_
    refine Rc (al al_Rat) ?_
    exact RgAll.nil
  intro v W6 e1 hΦ _
  replace S := S.mono e1
  have h33 := hΦ 4 (by decide)
  have v5 : v 5 = .int .i64 0 := hΦ 5 (by decide)
  obtain ⟨g10, v6, q6, b5, _⟩ := (hΦ 6 (by decide) : IsBo W5 2 (v 6) W6)
  replace S := S.addN 2 (ApartO.old hl.out q6) (Nat.le_trans hw q6) b5
  simp only [newF, List.cons_append, List.nil_append] at S
  simp only [layL, Act.put, List.setIfInBounds_toArray, List.set_cons_zero, List.set_cons_succ, Nat.reduceAdd]
  rw [v5, v6]
  clear b5 hl hw v5 v6 hΦ e1
  try simp only [List.drop_succ_cons, List.drop_zero]
  (with_reducible refine stL ?_ (by rfl)); intro KK hKK; refine stQ S 1 0 (g10) 0 h33 (IsI.gstb _ _) (IsI.gstb _ _) st_Rat (fun W7 S2 G2 => hKK _ _ ?_) rfl rfl
  replace S := S2; clear S2 G2 hKK KK h33
  simp only [List.set_cons_zero, List.set_cons_succ] at S
  refine wpList_step fun K hK => ?_; go_simp; refine hK _ _ ?_; clear hK K
  refine wpList_nil ?_
  go_upto_region 7 with (fail)
  refine rgs 9 [some 35, some 36, some 37, some 38, some 39, some 40, some 41, some 42, some 43] [IsV (.int .i64 0), IsV (.int .i64 0), IsV (.bool false), IsV (.bool false), IsQ (IsI 5 r.num) (IsI 5 ((r.den : Int))), IsQ (IsI 5 r.num) (IsI 5 ((r.den : Int))), IsV (.bool true), IsV (.bool false), IsV (.bool false)] [] ?_ ?_
  · refine Rc (mv (Od.lit 9)) ?_
    refine Rc (mv (Od.lit 11)) ?_
    refine Rc (bn (r := .bool false) (Od.loc 0 35) (Od.loc 1 36) (hr := fun w => by go_simp)) ?_
    refine Rc (mv (Od.lc 2 37)) ?_
    refine RcG 3 38 false (ldQ S 3 2 (g8) 0 (Od.lit 8) ld_Rat rfl rfl) ?_
    refine RcG 3 38 false (ldQ S 1 0 (g10) 0 (Od.lit 10) ld_Rat rfl rfl) ?_
    refine RcG 3 38 false (cl2 (en Tryz.func18) (Od.lc (Φ := IsQ (IsI 5 r.num) (IsI 5 ((r.den : Int)))) 4 39) (Od.lc (Φ := IsQ (IsI 5 r.num) (IsI 5 ((r.den : Int)))) 5 40) (fun x0 x1 w' hE d0 d1 => rqSame_eq d0 d1 (by decide) (rfl))) ?_
    refine RcG 3 38 false (nt (Od.loc 6 41)) ?_
    refine Rc (pk (Od.loc 3 38) (Od.lc 7 42)) ?_
    exact RgAll.nil
  intro v W8 e1 hΦ _
  replace S := S.mono e1
  have v8 : v 8 = .bool false := hΦ 8 (by decide)
  simp only [layL, Act.put, List.setIfInBounds_toArray, List.set_cons_zero, List.set_cons_succ, Nat.reduceAdd]
  rw [v8]
  clear v8 hΦ e1
  refine wpList_nil ?_
  go_upto_region 9 with (fail)
  refine rgs 2 [some 44, some 45] [IsV (.int .i64 0), IsV (.bool false)] [] ?_ ?_
  · refine Rc (mv (Od.lit 9)) ?_
    refine Rc (bn (r := .bool false) (Od.loc 0 44) Od.con (hr := fun w => by go_simp)) ?_
    exact RgAll.nil
  intro v W9 e1 hΦ _
  replace S := S.mono e1
  have v1 : v 1 = .bool false := hΦ 1 (by decide)
  simp only [layL, Act.put, List.setIfInBounds_toArray, List.set_cons_zero, List.set_cons_succ, Nat.reduceAdd]
  rw [v1]
  clear v1 hΦ e1
  refine wpList_nil ?_
  go_upto_region 11 with (fail)
  refine rgs 6 [some 57, some 58, some 59, some 60, some 61, some 62] [IsQ (IsI 5 qa.num) (IsI 5 ((qa.den : Int))), IsQ (IsI 5 qb.num) (IsI 5 ((qb.den : Int))), IsJ (IsI 5 qa.num) (IsI 5 ((qa.den : Int))) (IsI 5 qb.num) (IsI 5 ((qb.den : Int))), IsQ (IsI 5 r.num) (IsI 5 ((r.den : Int))), IsV (.bool true), IsV (.bool false)] [] ?_ ?_
  · refine Rc (ldQ S 7 6 (g6) 0 (Od.lit 6) ld_Rat rfl rfl) ?_
    refine Rc (ldQ S 5 4 (g7) 0 (Od.lit 7) ld_Rat rfl rfl) ?_
    refine Rc (bj (Od.loc 0 57) (Od.loc 1 58) bd_Iv) ?_
    refine Rc (ldQ S 3 2 (g8) 0 (Od.lit 8) ld_Rat rfl rfl) ?_
    refine Rc (cl2 (en Tryz.func22) (Od.lc (Φ := IsJ (IsI 5 qa.num) (IsI 5 ((qa.den : Int))) (IsI 5 qb.num) (IsI 5 ((qb.den : Int)))) 2 59) (Od.lc (Φ := IsQ (IsI 5 r.num) (IsI 5 ((r.den : Int)))) 3 60) (fun x0 x1 w' hE d0 d1 => Calls.mono (rqHas_f d0 d1 (by decide)) fun _ _ h => RetB h HH.out)) ?_
    refine Rc (nt (Od.loc 4 61)) ?_
    exact RgAll.nil
  intro v W10 e1 hΦ _
  replace S := S.mono e1
  have v5 : v 5 = .bool false := hΦ 5 (by decide)
  simp only [layL, Act.put, List.setIfInBounds_toArray, List.set_cons_zero, List.set_cons_succ, Nat.reduceAdd]
  rw [v5]
  clear v5 hΦ e1
  refine wpList_nil ?_
  go_upto_region 13 with (fail)
  refine rgs 1 [some 12] [IsV (.int .i64 1)] [] ?_ ?_
  · refine Rc (mv Od.con) ?_
    exact RgAll.nil
  intro v W11 e1 hΦ _
  replace S := S.mono e1
  have v0 : v 0 = .int .i64 1 := hΦ 0 (by decide)
  simp only [layL, Act.put, List.setIfInBounds_toArray, List.set_cons_zero, List.set_cons_succ]
  rw [v0]
  clear v0 hΦ e1
  refine wpList_nil ?_
  go_wp2_with fail
  have S0 := hid S; clear S
  go_loopg [12] 60 (fun gk v12 wr => ∃ i : Nat, v12 = .int .i64 ((i : Int) + 1) ∧ i + gk = 60 ∧ Hid (Sto w wr [((g10, 1), IsI 5 ((r.den : Int))), ((g10, 0), IsI 5 r.num), ((g8, 1), IsI 5 ((r.den : Int))), ((g8, 0), IsI 5 r.num), ((g7, 1), IsI 5 ((qb.den : Int))), ((g7, 0), IsI 5 qb.num), ((g6, 1), IsI 5 ((qa.den : Int))), ((g6, 0), IsI 5 qa.num), ((w.heap.size + 1, 1), IsR s2y x2d), ((w.heap.size + 1, 0), IsR s2x x2n), ((w.heap.size, 1), IsR s1y x1d), ((w.heap.size, 0), IsR s1x x1n)]))
  case atStart => exact ⟨0, rfl, by omega, S0⟩
  case round =>
    clear S0
    obtain ⟨i, rfl, hn, S⟩ := hrel
    have S := S.out
    have HOF := hid (show -9223372036854775808 ≤ (i : Int) + 1 ∧ (i : Int) + 1 ≤ 9223372036854775807 by omega)
    obtain ⟨cd, hcd⟩ : ∃ c, cmpI ((i : Int) + 1) (r.den : Int) = c := ⟨_, rfl⟩
    have HCD := hid hcd
    obtain ⟨b6, hb6⟩ : ∃ b, decide ((i : Int) + 1 ≤ 60) = b := ⟨_, rfl⟩
    have HB6 := hid hb6
    obtain ⟨bd, hbd⟩ : ∃ b, decide (cd < 0) = b := ⟨_, rfl⟩
    have HBD := hid hbd
    by_cases hgo : i + 1 ≤ 60 ∧ i + 1 < r.den
    · skip
      have hcl : cd < 0 := by rw [← hcd, cmpI_lt (by omega)]; decide
      obtain rfl : b6 = true := by rw [← hb6]; exact decide_eq_true (by omega)
      obtain rfl : bd = true := by rw [← hbd]; exact decide_eq_true hcl
      have HHN := hid hn
      have HADD := hid (show IntKind.i64.wrap ((i : Int) + 1 + 1) = (i : Int) + 1 + 1 by simp only [IntKind.wrap_i64]; omega)
      obtain ⟨lw, hlw⟩ : ∃ l, (qb * Rat.divInt ((i : Int) + 1) 1).floor = l := ⟨_, rfl⟩
      have HLW := hid hlw
      obtain ⟨cm, hcm⟩ : ∃ c, cmpQ (lw : Rat) (qa * Rat.divInt ((i : Int) + 1) 1) = c := ⟨_, rfl⟩
      have HCM := hid hcm
      have HCM1 := hid (show decide (0 ≤ cm) = false by rw [← hcm, ← hlw]; exact low_lt HSI.out i hgo.2)
      have HGK := hid hgo
      clear hn hcd hb6 hbd hcl hlw hcm hgo
      go_upto_region 14 with (fail)
      refine rg 10 [some 63, some 64, some 65, some 66, some 67, some 68, some 69, some 70, some 71, some 72] [IsV (.int .i64 ((i : Int) + 1)), IsV (.bool true), IsV (.bool true), IsV (.int .i64 ((i : Int) + 1)), IsI 2 (((i : Int) + 1)), IsV (.pointer (some ⟨g8, 2, none⟩)), IsI 5 ((r.den : Int)), IsV (.int .i64 cd), IsV (.bool true), IsV (.bool true)] [] 0 ?_ ?_
      · refine Rc (mv (Od.lit 12)) ?_
        refine Rc (bn (r := .bool true) (Od.loc 0 63) Od.con (hr := fun w => by have hx9 := HB6.out; go_simp)) ?_
        refine Rc (mv (Od.lc 1 64)) ?_
        refine RcG 2 65 true (mv (Od.lit 12)) ?_
        refine RcG 2 65 true (cl1 (en Tryz.func24) (Od.lc (Φ := IsV (.int .i64 ((i : Int) + 1))) 3 66) (fun x0 w' hE d0 => by { obtain rfl : x0 = .int .i64 ((i : Int) + 1) := d0; exact ROf_f _ ((i : Int) + 1) HOF.out.1 HOF.out.2 })) ?_
        refine RcG 2 65 true (fa (fa_Rat1 (g8) 0) (Od.lit 8)) ?_
        refine RcG 2 65 true (ldI S 2 (g8) 1 (Od.lc 5 68) ld_Int) ?_
        refine RcG 2 65 true (cl2 (en Tryz.func23) (Od.lc (Φ := IsI 2 (((i : Int) + 1))) 4 67) (Od.lc (Φ := IsI 5 ((r.den : Int))) 6 69) (fun x0 x1 w' hE d0 d1 => Calls.mono (RCmp_f d0 d1 (by decide) (by decide)) fun _ _ h => h.int HCD.out)) ?_
        refine RcG 2 65 true (bn (r := .bool true) (Od.loc 7 70) Od.con (hr := fun w => by have hx9 := HBD.out; go_simp)) ?_
        refine Rc (pk (Od.loc 2 65) (Od.lc 8 71)) ?_
        exact RgAll.nil
      intro v W12 e1 hΦ _
      replace S := S.mono e1
      have v9 : v 9 = .bool true := hΦ 9 (by decide)
      simp only [layL, Act.put, List.setIfInBounds_toArray, List.set_cons_zero, List.set_cons_succ, Nat.reduceAdd]
      rw [v9]
      clear v9 hΦ e1
      refine wpAny_done (by kernel_rfl) ?_ _
      go_upto_region 16 with (fail)
      have hl := hid S.lt; have hw := S.ext.size
      refine rgn 7 [some 75, some 76, some 77, some 78, some 79, some 13, none] [IsQ (IsI 5 qb.num) (IsI 5 ((qb.den : Int))), IsV (.int .i64 ((i : Int) + 1)), IsQ (IsI 2 ((Rat.divInt ((i : Int) + 1) 1).num)) (IsI 2 (((Rat.divInt ((i : Int) + 1) 1).den : Int))), IsQ (IsI 7 ((qb * Rat.divInt ((i : Int) + 1) 1).num)) (IsI 7 (((qb * Rat.divInt ((i : Int) + 1) 1).den : Int))), IsI 7 lw, IsNw W12 1, TT] [5] [none, none, none, none, none, none, some (5, [IsI 7 lw])] [none, none, none, none, none, none, some 5] 0 ?_ ?_
      · refine RcK (ldQ S 5 4 (g7) 0 (Od.lit 7) ld_Rat rfl rfl) ?_
        refine RcK (mv (Od.lit 12)) ?_
        refine RcK (cl2 (en Tryz.func27) (Od.lc (Φ := IsV (.int .i64 ((i : Int) + 1))) 1 76) Od.con (fun x0 x1 w' hE d0 d1 => by { obtain rfl : x0 = .int .i64 ((i : Int) + 1) := d0; obtain rfl : x1 = .int .i64 1 := d1; exact rqOf_f w' ((i : Int) + 1) 1 HOF.out (by decide) (by decide) })) ?_
        refine RcK (cl2 (en Tryz.func26) (Od.lc (Φ := IsQ (IsI 5 qb.num) (IsI 5 ((qb.den : Int)))) 0 75) (Od.lc (Φ := IsQ (IsI 2 ((Rat.divInt ((i : Int) + 1) 1).num)) (IsI 2 (((Rat.divInt ((i : Int) + 1) 1).den : Int)))) 2 77) (fun x0 x1 w' hE d0 d1 => rqMul_f d0 d1 (by decide) (by decide))) ?_
        refine RcK (cl1 (en Tryz.func25) (Od.lc (Φ := IsQ (IsI 7 ((qb * Rat.divInt ((i : Int) + 1) 1).num)) (IsI 7 (((qb * Rat.divInt ((i : Int) + 1) 1).den : Int)))) 3 78) (fun x0 w' hE d0 => Calls.mono (rqFloor_f d0 (by decide)) fun _ _ h => h.eqz HLW.out)) ?_
        refine RcK (alN al_Int) ?_
        refine RcS 5 (sI st_Int (Od.lc (Φ := IsI 7 lw) 4 79)) ?_
        exact RgAllN.nil
      intro v W13 e1 hΦ hS _
      replace S := S.mono e1
      obtain ⟨g13, v5, q7, S2⟩ := S.addI (hΦ 5 (by decide) rfl) (hS 6 (by decide) _ _ rfl) hw (IsI.gstb _ _)
      replace S := S2 (ApartO.old hl.out q7); clear S2
      simp only [layL, Act.put, List.setIfInBounds_toArray, List.set_cons_zero, List.set_cons_succ, Nat.reduceAdd]
      rw [v5]
      clear hl hw v5 hΦ hS e1
      refine wpAny_done (by kernel_rfl) ?_ _
      go_upto_region 17 with (fail)
      refine rg 8 [some 80, some 81, some 82, some 83, some 84, some 85, some 86, some 87] [IsI 7 lw, IsQ (IsI 7 lw) (IsI 2 1), IsQ (IsI 5 qa.num) (IsI 5 ((qa.den : Int))), IsV (.int .i64 ((i : Int) + 1)), IsQ (IsI 2 ((Rat.divInt ((i : Int) + 1) 1).num)) (IsI 2 (((Rat.divInt ((i : Int) + 1) 1).den : Int))), IsQ (IsI 7 ((qa * Rat.divInt ((i : Int) + 1) 1).num)) (IsI 7 (((qa * Rat.divInt ((i : Int) + 1) 1).den : Int))), IsV (.int .i64 cm), IsV (.bool false)] [] 0 ?_ ?_
      · refine Rc (ldI S 0 (g13) 0 (Od.lit 13) ld_Int) ?_
        refine Rc (cl1 (en Tryz.func29) (Od.lc (Φ := IsI 7 lw) 0 80) (fun x0 w' hE d0 => rqWhole_c d0)) ?_
        refine Rc (ldQ S 8 7 (g6) 0 (Od.lit 6) ld_Rat rfl rfl) ?_
        refine Rc (mv (Od.lit 12)) ?_
        refine Rc (cl2 (en Tryz.func27) (Od.lc (Φ := IsV (.int .i64 ((i : Int) + 1))) 3 83) Od.con (fun x0 x1 w' hE d0 d1 => by { obtain rfl : x0 = .int .i64 ((i : Int) + 1) := d0; obtain rfl : x1 = .int .i64 1 := d1; exact rqOf_f w' ((i : Int) + 1) 1 HOF.out (by decide) (by decide) })) ?_
        refine Rc (cl2 (en Tryz.func26) (Od.lc (Φ := IsQ (IsI 5 qa.num) (IsI 5 ((qa.den : Int)))) 2 82) (Od.lc (Φ := IsQ (IsI 2 ((Rat.divInt ((i : Int) + 1) 1).num)) (IsI 2 (((Rat.divInt ((i : Int) + 1) 1).den : Int)))) 4 84) (fun x0 x1 w' hE d0 d1 => rqMul_f d0 d1 (by decide) (by decide))) ?_
        refine Rc (cl2 (en Tryz.func28) (Od.lc (Φ := IsQ (IsI 7 lw) (IsI 2 1)) 1 81) (Od.lc (Φ := IsQ (IsI 7 ((qa * Rat.divInt ((i : Int) + 1) 1).num)) (IsI 7 (((qa * Rat.divInt ((i : Int) + 1) 1).den : Int)))) 5 85) (fun x0 x1 w' hE d0 d1 => Calls.mono (rqCmp_f (isQ_intz d0 (by decide)) d1 (by decide) (by decide)) fun _ _ h => h.int HCM.out)) ?_
        refine Rc (bn (r := .bool false) (Od.loc 6 86) Od.con (hr := fun w => by have hx9 := HCM1.out; go_simp)) ?_
        exact RgAll.nil
      intro v W14 e1 hΦ _
      replace S := S.mono e1
      have v7 : v 7 = .bool false := hΦ 7 (by decide)
      simp only [layL, Act.put, List.setIfInBounds_toArray, List.set_cons_zero, List.set_cons_succ, Nat.reduceAdd]
      rw [v7]
      clear v7 hΦ e1
      refine wpAny_done (by kernel_rfl) ?_ _
      have hx9 := HADD.out
      have S' := hid (S.drop 1); clear S
      go_wp2_with fail
      go_roundg (gk - 1)
      case measure => have := HHN.out; have := HGK.out.1; omega
      case rel => exact ⟨i + 1, by rw [Int.natCast_add]; rfl, by have := HHN.out; have := HGK.out.1; omega, S'⟩
    · skip
      have HEX := hid (show (b6 && bd) = false by
        rw [← hb6, ← hbd, ← hcd, Bool.eq_false_iff]
        intro k
        simp only [Bool.and_eq_true, decide_eq_true_eq] at k
        refine hgo ⟨by omega, ?_⟩
        have k2 := k.2
        unfold cmpI at k2
        split at k2
        · omega
        · split at k2 <;> omega)
      clear hn hcd hb6 hbd hgo
      go_upto_region 14 with (fail)
      refine rg 10 [some 63, some 64, some 65, some 66, some 67, some 68, some 69, some 70, some 71, some 72] [IsV (.int .i64 ((i : Int) + 1)), IsV (.bool b6), IsV (.bool b6), IsIf (b6) (IsV (.int .i64 ((i : Int) + 1))), IsIf (b6) (IsI 2 (((i : Int) + 1))), IsIf (b6) (IsV (.pointer (some ⟨g8, 2, none⟩))), IsIf (b6) (IsI 5 ((r.den : Int))), IsIf (b6) (IsV (.int .i64 cd)), IsIf (b6) (IsV (.bool bd)), IsV (.bool false)] [] 0 ?_ ?_ (hst := by repeat' (first | exact trivial | apply IsIf.stb | exact IsV.stb _ | exact IsI.stb _ _ | apply IsJ.stb | apply IsQ.stb | apply And.intro))
      · refine Rc (mv (Od.lit 12)) ?_
        refine Rc (bn (r := .bool b6) (Od.loc 0 63) Od.con (hr := fun w => by have hx9 := HB6.out; go_simp)) ?_
        refine Rc (mv (Od.lc 1 64)) ?_
        refine RcB 2 65 b6 true (fun hb => by subst hb; exact mv (Od.lit 12)) ?_
        refine RcB 2 65 b6 true (fun hb => by subst hb; exact cl1 (en Tryz.func24) (Od.lc (Φ := IsV (.int .i64 ((i : Int) + 1))) 3 66) (fun x0 w' hE d0 => by { obtain rfl : x0 = .int .i64 ((i : Int) + 1) := d0; exact ROf_f _ ((i : Int) + 1) HOF.out.1 HOF.out.2 })) ?_
        refine RcB 2 65 b6 true (fun hb => by subst hb; exact fa (fa_Rat1 (g8) 0) (Od.lit 8)) ?_
        refine RcB 2 65 b6 true (fun hb => by subst hb; exact ldI S 2 (g8) 1 (Od.lc 5 68) ld_Int) ?_
        refine RcB 2 65 b6 true (fun hb => by subst hb; exact cl2 (en Tryz.func23) (Od.lc (Φ := IsI 2 (((i : Int) + 1))) 4 67) (Od.lc (Φ := IsI 5 ((r.den : Int))) 6 69) (fun x0 x1 w' hE d0 d1 => Calls.mono (RCmp_f d0 d1 (by decide) (by decide)) fun _ _ h => h.int HCD.out)) ?_
        refine RcB 2 65 b6 true (fun hb => by subst hb; exact bn (r := .bool bd) (Od.loc 7 70) Od.con (hr := fun w => by have hx9 := HBD.out; go_simp)) ?_
        refine Rc (pkA (b2 := bd) (Od.loc 2 65) (fun hb => by subst hb; exact Od.lc 8 71) (HEX.out)) ?_
        exact RgAll.nil
      intro v W15 e1 hΦ _
      replace S := S.mono e1
      have v9 : v 9 = .bool false := hΦ 9 (by decide)
      simp only [layL, Act.put, List.setIfInBounds_toArray, List.set_cons_zero, List.set_cons_succ, Nat.reduceAdd]
      rw [v9]
      clear v9 hΦ e1
      refine wpAny_done (by kernel_rfl) ?_ _
      go_upto_region 19 with (fail)
      have hl := hid S.lt; have hw := S.ext.size
      refine rgn 14 [some 89, some 90, some 91, some 92, some 93, some 94, some 95, some 96, some 88, some 97, some 98, some 14, none, some 15] [IsV (.pointer (some ⟨g8, 0, none⟩)), IsI 5 r.num, IsI 5 r.num.natAbs, IsI 2 1, IsI 6 (r.num.natAbs - 1), IsV (.pointer (some ⟨g8, 2, none⟩)), IsI 5 ((r.den : Int)), IsT2 (IsQ (IsI 8 nr.num) (IsI 8 ((nr.den : Int)))) (IsV (.int .i64 0)), IsT2 (IsQ (IsI 8 nr.num) (IsI 8 ((nr.den : Int)))) (IsV (.int .i64 0)), IsQ (IsI 8 nr.num) (IsI 8 ((nr.den : Int))), IsV (.int .i64 0), IsNw W15 2, TT, IsV (.int .i64 0)] [11] [none, none, none, none, none, none, none, none, none, none, none, none, some (11, [IsI 8 nr.num, IsI 8 ((nr.den : Int))]), none] [none, none, none, none, none, none, none, none, none, none, none, none, some 11, none] 0 ?_ ?_
      · refine RcK (fa (fa_Rat0 (g8) 0) (Od.lit 8)) ?_
        refine RcK (ldI S 3 (g8) 0 (Od.lc 0 89) ld_Int) ?_
        refine RcK (cl1 (en Tryz.func32) (Od.lc (Φ := IsI 5 r.num) 1 90) (fun x0 w' hE d0 => RAbs_f d0)) ?_
        refine RcK (cl1 (en Tryz.func24) Od.con (fun x0 w' hE d0 => by { obtain rfl : x0 = .int .i64 1 := d0; exact ROf_f _ 1 (by decide) (by decide) })) ?_
        refine RcK (cl2 (en Tryz.func31) (Od.lc (Φ := IsI 5 r.num.natAbs) 2 91) (Od.lc (Φ := IsI 2 1) 3 92) (fun x0 x1 w' hE d0 d1 => RSub_f d0 d1 (by decide) (by decide))) ?_
        refine RcK (fa (fa_Rat1 (g8) 0) (Od.lit 8)) ?_
        refine RcK (ldI S 2 (g8) 1 (Od.lc 5 94) ld_Int) ?_
        refine RcK (cl2 (en Tryz.func30) (Od.lc (Φ := IsI 6 (r.num.natAbs - 1)) 4 93) (Od.lc (Φ := IsI 5 ((r.den : Int))) 6 95) (fun x0 x1 w' hE d0 d1 => Calls.mono (qNew_f d0 d1 (by decide) (by decide) HDN.out) fun _ _ h => h.t2q HNR.out (Nat.le_refl _))) ?_
        refine RcK (mv (Od.lc 7 96)) ?_
        refine RcK (ex (Od.loc 8 88) t20) ?_
        refine RcK (ex (Od.loc 8 88) t21) ?_
        refine RcK (alN al_Rat) ?_
        refine RcS 11 (sQ st_Rat (Od.lc (Φ := IsQ (IsI 8 nr.num) (IsI 8 ((nr.den : Int)))) 9 97) (IsI.gstb _ _) (IsI.gstb _ _)) ?_
        refine RcK (mv (Od.lc 10 98)) ?_
        exact RgAllN.nil
      intro v W16 e1 hΦ hS _
      replace S := S.mono e1
      obtain ⟨g14, v11, q8, S2⟩ := S.addQ (hΦ 11 (by decide) rfl) (hS 12 (by decide) _ _ rfl) hw (IsI.gstb _ _) (IsI.gstb _ _)
      replace S := S2 (ApartO.old hl.out q8); clear S2
      have v13 : v 13 = .int .i64 0 := hΦ 13 (by decide) rfl
      simp only [layL, Act.put, List.setIfInBounds_toArray, List.set_cons_zero, List.set_cons_succ, Nat.reduceAdd]
      rw [v11, v13]
      clear hl hw v11 v13 hΦ hS e1
      refine wpAny_done (by kernel_rfl) ?_ _
      go_upto_region 20 with (fail)
      refine rgs 8 [some 99, some 100, some 101, some 102, some 103, some 104, some 105, some 106] [IsV (.pointer (some ⟨g8, 0, none⟩)), IsI 5 r.num, IsV (.int .i64 sg), IsV (.bool false), IsV (.bool false), IsV (.int .i64 0), IsV (.bool false), IsV (.bool false)] [] ?_ ?_
      · refine Rc (fa (fa_Rat0 (g8) 0) (Od.lit 8)) ?_
        refine Rc (ldI S 5 (g8) 0 (Od.lc 0 99) ld_Int) ?_
        refine Rc (cl1 (en Tryz.func33) (Od.lc (Φ := IsI 5 r.num) 1 100) (fun x0 w' hE d0 => Calls.mono (RSign_f d0) fun _ _ h => h.int (HSG.out))) ?_
        refine Rc (bn (r := .bool false) (Od.loc 2 101) Od.con (hr := fun w => by have hx9 := HSZ.out; go_simp)) ?_
        refine Rc (mv (Od.lc 3 102)) ?_
        refine RcG 4 103 false (mv (Od.lit 15)) ?_
        refine RcG 4 103 false (bn (r := .bool false) (Od.loc 5 104) Od.con (hr := fun w => by go_simp)) ?_
        refine Rc (pk (Od.loc 4 103) (Od.lc 6 105)) ?_
        exact RgAll.nil
      intro v W17 e1 hΦ _
      replace S := S.mono e1
      have v7 : v 7 = .bool false := hΦ 7 (by decide)
      simp only [layL, Act.put, List.setIfInBounds_toArray, List.set_cons_zero, List.set_cons_succ, Nat.reduceAdd]
      rw [v7]
      clear v7 hΦ e1
      refine wpList_nil ?_
      go_upto_region 22 with (fail)
      refine rgs 4 [some 114, some 115, some 116, some 117] [IsV (.pointer (some ⟨g8, 0, none⟩)), IsI 5 r.num, IsV (.int .i64 sg), IsV (.bool true)] [] ?_ ?_
      · refine Rc (fa (fa_Rat0 (g8) 0) (Od.lit 8)) ?_
        refine Rc (ldI S 5 (g8) 0 (Od.lc 0 114) ld_Int) ?_
        refine Rc (cl1 (en Tryz.func33) (Od.lc (Φ := IsI 5 r.num) 1 115) (fun x0 w' hE d0 => Calls.mono (RSign_f d0) fun _ _ h => h.int (HSG.out))) ?_
        refine Rc (bn (r := .bool true) (Od.loc 2 116) Od.con (hr := fun w => by have hx9 := HSN.out; go_simp)) ?_
        exact RgAll.nil
      intro v W18 e1 hΦ _
      replace S := S.mono e1
      have v3 : v 3 = .bool true := hΦ 3 (by decide)
      simp only [layL, Act.put, List.setIfInBounds_toArray, List.set_cons_zero, List.set_cons_succ, Nat.reduceAdd]
      rw [v3]
      clear v3 hΦ e1
      refine wpList_nil ?_
      go_upto_region 23 with (fail)
      refine rgs 2 [some 118, some 119] [IsQ (IsI 8 nr.num) (IsI 8 ((nr.den : Int))), IsQ (IsI 8 ((-nr).num)) (IsI 8 (((-nr).den : Int)))] [] ?_ ?_
      · refine Rc (ldQ S 1 0 (g14) 0 (Od.lit 14) ld_Rat rfl rfl) ?_
        refine Rc (cl1 (en Tryz.func34) (Od.lc (Φ := IsQ (IsI 8 nr.num) (IsI 8 ((nr.den : Int)))) 0 118) (fun x0 w' hE d0 => rqneg_f d0)) ?_
        exact RgAll.nil
      intro v W19 e1 hΦ _
      replace S := S.mono e1
      have h119 := hΦ 1 (by decide)
      simp only [layL, Act.put, List.setIfInBounds_toArray, List.set_cons_zero, List.set_cons_succ, Nat.reduceAdd]
      clear hΦ e1
      try simp only [List.drop_succ_cons, List.drop_zero]
      (with_reducible refine stL ?_ (by rfl)); intro KK hKK; refine stQ S 1 0 (g14) 0 h119 (IsI.gstb _ _) (IsI.gstb _ _) st_Rat (fun W20 S2 G2 => hKK _ _ ?_) rfl rfl
      replace S := S2; clear S2 G2 hKK KK h119
      simp only [List.set_cons_zero, List.set_cons_succ] at S
      refine wpList_nil ?_
      go_upto_region 24 with (fail)
      refine rgs 10 [some 120, some 121, some 122, some 123, some 124, some 125, some 126, some 127, some 128, some 4] [IsQ (IsI 5 qa.num) (IsI 5 ((qa.den : Int))), IsQ (IsI 5 qb.num) (IsI 5 ((qb.den : Int))), IsJ (IsI 5 qa.num) (IsI 5 ((qa.den : Int))) (IsI 5 qb.num) (IsI 5 ((qb.den : Int))), IsQ (IsI 8 ((-nr).num)) (IsI 8 (((-nr).den : Int))), IsV (.bool false), IsV (.bool true), IsV (.bool true), IsV (.bool true), IsV (.bool true), IsV (.bool true)] [] ?_ ?_
      · refine Rc (ldQ S 9 8 (g6) 0 (Od.lit 6) ld_Rat rfl rfl) ?_
        refine Rc (ldQ S 7 6 (g7) 0 (Od.lit 7) ld_Rat rfl rfl) ?_
        refine Rc (bj (Od.loc 0 120) (Od.loc 1 121) bd_Iv) ?_
        refine Rc (ldQ S 1 0 (g14) 0 (Od.lit 14) ld_Rat rfl rfl) ?_
        refine Rc (cl2 (en Tryz.func22) (Od.lc (Φ := IsJ (IsI 5 qa.num) (IsI 5 ((qa.den : Int))) (IsI 5 qb.num) (IsI 5 ((qb.den : Int)))) 2 122) (Od.lc (Φ := IsQ (IsI 8 ((-nr).num)) (IsI 8 (((-nr).den : Int)))) 3 123) (fun x0 x1 w' hE d0 d1 => Calls.mono (rqHas_f d0 d1 (by decide)) fun _ _ h => RetB h HNO.out)) ?_
        refine Rc (nt (Od.loc 4 124)) ?_
        refine Rc (mv (Od.lc 5 125)) ?_
        refine RcG 6 126 true (mv (Od.lit 5)) ?_
        refine Rc (pk (Od.loc 6 126) (Od.lc 7 127)) ?_
        refine Rc (mv (Od.lc 8 128)) ?_
        exact RgAll.nil
      intro v W21 e1 hΦ _
      replace S := S.mono e1
      have v9 : v 9 = .bool true := hΦ 9 (by decide)
      simp only [layL, Act.put, List.setIfInBounds_toArray, List.set_cons_zero, List.set_cons_succ, Nat.reduceAdd]
      rw [v9]
      clear v9 hΦ e1
      refine wpList_nil ?_
      go_wp2_with fail
      exact bodyPost_ret (v := .bool true) (by simp [results, Tryz.results4, go_sem]) rfl (⟨_, rfl, S.ext, rfl⟩)

theorem Simplest_c (w : World) (s1x s1y s2x s2y : Bool) (a1x a1y a2x a2y : Option Addr) (n1x n1y c1x c1y n2x n2y c2x c2y : Nat) (x1n x1d x2n x2d : List Nat) (h1x : Wd w a1x n1x c1x x1n) (h1y : Wd w a1y n1y c1y x1d) (h2x : Wd w a2x n2x c2x x2n) (h2y : Wd w a2y n2y c2y x2d) (ht : Tab w) :
    Calls Tryz.prog 4 #[.agg #[.bool s1x, .slice a1x n1x c1x, .bool s1y, .slice a1y n1y c1y], .agg #[.bool s2x, .slice a2x n2x c2x, .bool s2y, .slice a2y n2y c2y]] w (Ret w (IsV (.bool true))) := by
  obtain ⟨qa, ea⟩ : ∃ p, madeQ s1x s1y x1n x1d 3 = p := ⟨_, rfl⟩
  obtain ⟨qb, eb⟩ : ∃ p, madeQ s2x s2y x2n x2d 3 = p := ⟨_, rfl⟩
  by_cases hle : qa ≤ qb
  · obtain ⟨r, hr⟩ : ∃ r, btwQ qa qb = r := ⟨_, rfl⟩
    have hs := btw_simp hle
    rw [hr] at hs
    have hh : hasQ qa qb r = true := by rw [hasQ_le, decide_eq_true hs.lo, decide_eq_true hs.hi]; rfl
    have hdn : (r.den : Int) ≠ 0 := by have := r.den_pos; omega
    by_cases h0 : r.num = 0
    · exact Simplest_z w s1x s1y s2x s2y a1x a1y a2x a2y n1x n1y c1x c1y n2x n2y c2x c2y x1n x1d x2n x2d h1x h1y h2x h2y ht qa qb r _ _ (hid ea) (hid eb) (hid hle) (hid hr) (hid hs) (hid hh) (hid hdn) (hid rfl) (hid rfl) (hid (by rw [h0]; rfl))
    · have hz : (r.num.sign == 0) = false := by rw [beq_eq_false_iff_ne]; intro k; exact h0 (Int.sign_eq_zero_iff_zero.1 k)
      by_cases hn : r.num < 0
      · exact Simplest_n w s1x s1y s2x s2y a1x a1y a2x a2y n1x n1y c1x c1y n2x n2y c2x c2y x1n x1d x2n x2d h1x h1y h2x h2y ht qa qb r _ _ (hid ea) (hid eb) (hid hle) (hid hr) (hid hs) (hid hh) (hid hdn) (hid rfl) (hid rfl) (hid hz) (hid (decide_eq_true (Int.sign_neg_iff.2 hn))) (hid (near_no hs (-((r.num.natAbs : Int) - 1)) (by rw [Rat.neg_divInt]) (by omega)))
      · exact Simplest_p w s1x s1y s2x s2y a1x a1y a2x a2y n1x n1y c1x c1y n2x n2y c2x c2y x1n x1d x2n x2d h1x h1y h2x h2y ht qa qb r _ _ (hid ea) (hid eb) (hid hle) (hid hr) (hid hs) (hid hh) (hid hdn) (hid rfl) (hid rfl) (hid hz) (hid (decide_eq_false (fun k => hn (Int.sign_neg_iff.1 k)))) (hid (near_no hs ((r.num.natAbs : Int) - 1) rfl (by omega)))
  · have hlt := Rat.not_le.1 hle
    exact Simplest_E w s1x s1y s2x s2y a1x a1y a2x a2y n1x n1y c1x c1y n2x n2y c2x c2y x1n x1d x2n x2d h1x h1y h2x h2y ht qa qb _ (hid ea) (hid eb) (hid hlt) (hid rfl) (hid (by rw [cmpQ_gtD]; exact decide_eq_true hlt))
end Go.Proofs.YtcgdkfadcglekaaGreatDoor
namespace Go.Proofs.YtcgdkfadcglekaaGreatDoor
open Go Go.RowKit Go.ChangeShapes Go.WideShapes Go.ChangeAt

set_option maxRecDepth 100000 in
theorem rationalSimplest_lifted (os : Os) (started : os.Started) (H : Type) (enc : TypeId × Value → H) :
    ReturnsInHanded {} Tryz.checked os 4 .any (fun w args => (Rows.rationalSimplestSpec.pre enc Tryz.prog Tryz.f4 [] false w args ∧ laidMetH Tryz.prog laid3 w) ∧ sizedMet enc Tryz.prog Tryz.f4 (OpenSpec.ofChange Rows.rationalSimplestSpec) false w args)
      (Rows.rationalSimplestSpec.post enc Tryz.prog Tryz.f4 false true false false) := by
  refine returnsInHanded_of_change_and (C := Tryz.checked) (X := fun w _ => laidMetH Tryz.prog laid3 w) (fun _ _ _ hh h => h.of_heap hh) own started (by kernel_rfl) Tryz.func4
    (ChangeSpec.witness_shaped (enc := enc) (C := Tryz.checked) (os := os) (X := fun w _ => laidMetH Tryz.prog laid3 w) false (World.doorLaid Tryz.prog 2000 os) #[.agg #[.bool false, .slice none 0 0, .bool false, .slice none 0 0], .agg #[.bool false, .slice none 0 0, .bool false, .slice none 0 0]] 8 rfl (World.shaped_of_RefB (by kernel_rfl) (by kernel_rfl)) (by kernel_rfl) (by kernel_rfl) (by kernel_rfl) (door_met os _)) ?_
  intro W base args ds gs before hval0 hW _ _ hL _
  have hval : ∀ (j : Nat) t v, Tryz.f4.params[j]? = some t → args[j]? = some v → Value.okWide Tryz.prog W .any base t v := hval0
  have hW' := hW
  obtain ⟨p, q, hA0, hV, rfl, hfz, hnd⟩ := hW
  have hA : DataW.TrodAll enc Tryz.prog W 0 (fun _ => true) true Tryz.f4.params.toList args.toList ds p := hA0
  rw [Tryz.params4] at hA hval
  obtain ⟨v1, v2, d1, d2, p1, p2, rfl, rfl, rfl, k1, k2⟩ := trodAll_two hA
  obtain ⟨rfl, rfl⟩ := trodVars_none hV
  obtain ⟨s1x, a1x, n1x, c1x, x1n, s1y, a1y, n1y, c1y, x1d, rfl, w1x, w1y, r1⟩ := rawq_open (hval 0 26 v1 rfl rfl) k1
  obtain ⟨s2x, a2x, n2x, c2x, x2n, s2y, a2y, n2y, c2y, x2d, rfl, w2x, w2y, r2⟩ := rawq_open (hval 1 26 v2 rfl rfl) k2
  clear hA0 hval0
  refine (Simplest_c W s1x s1y s2x s2y a1x a1y a2x a2y n1x n1y c1x c1y n2x n2y c2x c2y x1n x1d x2n x2d w1x w1y w2x w2y (tab_of_laid hL)).mono fun e W' ⟨x, he, hb, hx⟩ => ?_
  have hx : x = .bool true := hx
  subst he; subst hx
  refine ⟨_, rfl, post_of_below (pa := p1 ++ p2) (pv := []) hW' (fun _ _ _ => trodAll_mk1 (shut_bool Tryz.underlying4 true)) (fun sp hsp => ?_) (fun _ _ => rfl) (by simp) hb (ok_one (by kernel_rfl) rfl (okWide_bool_mk Tryz.underlying4 _))⟩
  rw [Tryz.params4]
  exact trodAll_mk2 (r1 W' sp hb fun q hq => hsp q (by simp [hq])) (r2 W' sp hb fun q hq => hsp q (by simp [hq]))

theorem rationalSimplest_row : Rows.RationalSimplestSaid :=
  OpenClaim.holds_of_wide 4 Tryz.f4 rfl rfl rfl rfl rfl rfl rfl ⟨rfl, rfl, rfl, rfl, rfl⟩ rfl rfl rfl rfl rfl (by kernel_rfl) Tryz.func4 (by kernel_rfl)
    (of_decide_eq_true (by kernel_rfl)) (by unfold Func.isWrapper; first | (rw [if_pos (by decide +kernel)]; kernel_rfl) | (rw [if_neg (by decide +kernel)]; exact ⟨rfl, rfl⟩))
    (fun os started H enc _ => rationalSimplest_lifted os started H enc)

set_option maxRecDepth 100000 in
/-- The tied card. -/
theorem rationalSimplest_holds : Rows.RationalSimplestCardSaid :=
  Claim7.holds_tied_plain_at .later [] [.data, .data, .data] true Rows.rationalSimplestCard.stood.harness false
    rationalSimplest_row (fun _ h => by cases h) (by kernel_rfl) (fun _ h => by cases h) rationalSimplest_row_tie rfl ⟨rfl, rfl⟩ (by kernel_rfl) rfl
    (fun f fn hf hfn => by
      obtain rfl : f = 4 := Option.some.inj ((show Tryz.prog.funcNamed "algorist/algoristlaw02.RationalSimplest" = some 4 by kernel_rfl).symm.trans hf) |>.symm
      obtain rfl : fn = Tryz.f4 := (Option.some.inj (Tryz.func4.symm.trans hfn)).symm
      refine ⟨by kernel_rfl, fun j t ht => ?_⟩
      rw [Tryz.params4] at ht
      have h3 : t = 26 := by
        rcases j with _ | _ | j
        · simpa using ht.symm
        · simpa using ht.symm
        · simp at ht
      subst h3
      exact (show Tryz.prog.wantsStandIn 26 = false by kernel_rfl))
    (by kernel_rfl)
#print axioms rationalSimplest_holds
end Go.Proofs.YtcgdkfadcglekaaGreatDoor
