/-
  The statement RationalOrder: for every 3 descriptions of fractions the law answers true, and the descriptions read behind the call as they read before. The listed package variables hold what the program's text lays (the card ties them).
-/
import Derived.Test.YtcgdkfadcglekaaGreatDoorQe
import Derived.Test.YtcgdkfadcglekaaGreatDoorReadQ
import Derived.Test.YtcgdkfadcglekaaGreatDoorTie
import Derived.Test.YtcgdkfadcglekaaGreatDoorCards
import Derived.SevenTiedAt
namespace Go.Proofs.YtcgdkfadcglekaaGreatDoor
open Go Go.RowKit

/-- A fact of a guarded operation whose guard is a letter. -/
def IsIf (b : Bool) (Φ : Value → World → Prop) : Value → World → Prop := fun x w => bif b then Φ x w else x = undef
theorem IsIf.stb {b : Bool} {Φ : Value → World → Prop} (h : Stb Φ) : Stb (IsIf b Φ) := fun x w w' e k => by
  cases b
  · exact k
  · exact h x w w' e k
section
variable {P : Program} {ops : Array Oper} {Q : Exit → Act → World → Prop} {ds : List (Option Tmp)} {a0 : Act} {w0 : World} {L : List (Value → World → Prop)} {boxes : List Nat} {i k : Nat} {o : Oper} {os : List Oper}
theorem RcB (g t : Nat) (b pol : Bool) (h : b = pol → Ok P ops Q ds a0 w0 L boxes i o) (hs : RgAll P .any ops Q ds a0 w0 L boxes (i + 1) k os) (hg : o.guard = some (g, pol) := by rfl) (hdst : dstOf ops g = some t := by kernel_rfl) (h1 : ds[g]? = some (some t) := by kernel_rfl) (h2 : (ds.drop (g + 1)).contains (some t) = false := by kernel_rfl) (h3 : decide (t < a0.tmps.size) = true := by kernel_rfl) (hu : (ups .any ops i).contains g = true := by kernel_rfl)
    (hL : L.getD g (fun _ _ => True) = IsV (.bool b) := by kernel_rfl) (hb : boxes.contains i = false := by kernel_rfl) (hi : b = (!pol) → L.getD i (fun _ _ => True) = IsV undef := by intro h; subst h; kernel_rfl) : RgAll P .any ops Q ds a0 w0 L boxes i (k + 1) (o :: os) := by
  refine ⟨?_, hs⟩
  by_cases hbp : b = pol
  · have hL' : L.getD g (fun _ _ => True) = IsV (.bool pol) := by rw [hL, hbp]
    exact RgL.mkG g t pol hg hdst h1 h2 h3 hu (fun _ _ h => by rw [hL'] at h; exact h) (h hbp).out
  · have hbn : b = !pol := by cases b <;> cases pol <;> simp_all
    have hL' : L.getD g (fun _ _ => True) = IsV (.bool (!pol)) := by rw [hL, hbn]
    exact RgL.mkN g t (!pol) (by rw [hg, Bool.not_not]) hdst h1 h2 h3 hu (fun _ _ h => by rw [hL'] at h; exact h) hb (fun _ => by rw [hi hbn]; exact rfl)
theorem un {x : Operand} {u : UnOp} {T : Nat} {p r : Value} (hx : Od ops ds a0 w0 L i x (IsV p)) (ho : o.op = .unOp u T x := by rfl) (hr : ∀ w, Sem.run P (Op.unary u p) w = .ok r w) (hi : L.getD i (fun _ _ => True) = IsV r := by kernel_rfl) (hb : boxes.contains i = false := by kernel_rfl) : Ok P ops Q ds a0 w0 L boxes i o :=
  Ok.of hb fun v a w hE hd hf => by
    have h1 : a.eval x = p := hx.out v a w hE hd hf
    refine ⟨r, ?_, by rw [hi]; exact rfl⟩
    have := hr w
    unfold execOp
    rw [ho]
    dsimp only
    rw [h1]
    simp [this]
theorem pkA {c y : Operand} {b b2 r : Bool} (hc : Od ops ds a0 w0 L i c (IsV (.bool b))) (hy : b = true → Od ops ds a0 w0 L i y (IsV (.bool b2))) (hr : (b && b2) = r) (ho : o.op = .pick c y (.const (.bool false)) := by rfl) (hi : L.getD i (fun _ _ => True) = IsV (.bool r) := by kernel_rfl) (hb : boxes.contains i = false := by kernel_rfl) : Ok P ops Q ds a0 w0 L boxes i o :=
  Ok.of hb fun v a w hE hd hf => by
    have h1 : a.eval c = .bool b := hc.out v a w hE hd hf
    refine ⟨.bool r, ?_, by rw [hi]; exact rfl⟩
    unfold execOp
    rw [ho]
    dsimp only
    rw [h1]
    cases b
    · subst hr; simp [asBool]; rfl
    · have h2 : a.eval y = .bool b2 := (hy rfl).out v a w hE hd hf
      rw [h2]
      subst hr; simp [asBool]
theorem pkO {c y : Operand} {b b2 r : Bool} (hc : Od ops ds a0 w0 L i c (IsV (.bool b))) (hy : b = false → Od ops ds a0 w0 L i y (IsV (.bool b2))) (hr : (b || b2) = r) (ho : o.op = .pick c (.const (.bool true)) y := by rfl) (hi : L.getD i (fun _ _ => True) = IsV (.bool r) := by kernel_rfl) (hb : boxes.contains i = false := by kernel_rfl) : Ok P ops Q ds a0 w0 L boxes i o :=
  Ok.of hb fun v a w hE hd hf => by
    have h1 : a.eval c = .bool b := hc.out v a w hE hd hf
    refine ⟨.bool r, ?_, by rw [hi]; exact rfl⟩
    unfold execOp
    rw [ho]
    dsimp only
    rw [h1]
    cases b
    · have h2 : a.eval y = .bool b2 := (hy rfl).out v a w hE hd hf
      rw [h2]
      subst hr; simp [asBool]
    · subst hr; simp [asBool]; rfl
end
theorem isQ_intz {K : Nat} {z : Int} {x : Value} {w : World} (h : IsQ (IsI K z) (IsI 2 1) x w) (hK : 2 ≤ K) : IsRat K (z : Rat) x w := h.up (Nat.le_refl _) hK
theorem pos_num {q : Rat} (h : 0 < q.num) : 0 < q := (rat_lt 0 q).2 (by rw [show (0 : Rat).num = 0 from rfl, show ((0 : Rat).den : Int) = 1 from rfl]; omega)
theorem cmpQ_cases (p q : Rat) : (p < q ∧ cmpQ p q = -1) ∨ (p = q ∧ cmpQ p q = 0) ∨ (q < p ∧ cmpQ p q = 1) := by
  rcases Int.lt_trichotomy (p.num * (q.den : Int)) (q.num * (p.den : Int)) with h | h | h
  · exact .inl ⟨(rat_lt p q).2 h, cmpI_lt h⟩
  · exact .inr (.inl ⟨(rat_eq p q).2 h, cmpI_eq h⟩)
  · exact .inr (.inr ⟨(rat_lt q p).2 h, cmpI_gt h⟩)
theorem sign_cmp (q : Rat) : q.num.sign = cmpQ q 0 := by
  unfold cmpQ cmpI
  rw [show (0 : Rat).num = 0 from rfl, show ((0 : Rat).den : Int) = 1 from rfl, Int.mul_one, Int.zero_mul]
  split
  · exact Int.sign_eq_neg_one_of_neg (by assumption)
  · split
    · exact Int.sign_eq_one_of_pos (by assumption)
    · rw [show q.num = 0 by omega]; rfl
theorem sub_cmp (p q : Rat) : (p - q).num.sign = cmpQ p q := by
  rw [sign_cmp]
  rcases cmpQ_cases p q with ⟨h, e⟩ | ⟨h, e⟩ | ⟨h, e⟩ <;> rw [e]
  · exact cmpQ_lt (by rw [Rat.lt_iff_sub_pos] at h ⊢; rwa [show 0 - (p - q) = q - p by rw [Rat.sub_eq_add_neg, Rat.zero_add, Rat.neg_sub]])
  · exact cmpQ_eq (by rw [h, Rat.sub_self])
  · exact cmpQ_gt (by rw [Rat.lt_iff_sub_pos] at h ⊢; rwa [show p - q - 0 = p - q by rw [Rat.sub_eq_add_neg, show -(0 : Rat) = 0 from rfl, Rat.add_zero]])
theorem add_cmp (p q r : Rat) : cmpQ (p + r) (q + r) = cmpQ p q := by
  rcases cmpQ_cases p q with ⟨h, e⟩ | ⟨h, e⟩ | ⟨h, e⟩ <;> rw [e]
  · exact cmpQ_lt (Rat.add_lt_add_right.2 h)
  · exact cmpQ_eq (by rw [h])
  · exact cmpQ_gt (Rat.add_lt_add_right.2 h)
theorem mul_cmp (p q : Rat) {r : Rat} (hr : 0 < r) : cmpQ (p * r) (q * r) = cmpQ p q := by
  rcases cmpQ_cases p q with ⟨h, e⟩ | ⟨h, e⟩ | ⟨h, e⟩ <;> rw [e]
  · exact cmpQ_lt (Rat.mul_lt_mul_of_pos_right h hr)
  · exact cmpQ_eq (by rw [h])
  · exact cmpQ_gt (Rat.mul_lt_mul_of_pos_right h hr)
theorem cmpQ_nle {p q : Rat} (h : p ≤ q) : decide (0 < cmpQ p q) = false := by
  rcases cmpQ_cases p q with ⟨_, e⟩ | ⟨_, e⟩ | ⟨k, _⟩
  · rw [e]; rfl
  · rw [e]; rfl
  · exact absurd h (Rat.not_le.2 k)
theorem cmpQ_le1 {p q : Rat} (h : p ≤ q) : decide (cmpQ p q ≤ 0) = true := by
  rcases cmpQ_cases p q with ⟨_, e⟩ | ⟨_, e⟩ | ⟨k, _⟩
  · rw [e]; rfl
  · rw [e]; rfl
  · exact absurd h (Rat.not_le.2 k)
theorem le_of_cmp {p q : Rat} (h : decide (cmpQ p q ≤ 0) = true) : p ≤ q := by
  rcases cmpQ_cases p q with ⟨k, _⟩ | ⟨k, _⟩ | ⟨_, e⟩
  · exact Rat.le_of_lt k
  · rw [k]; exact Rat.le_refl
  · rw [e] at h; cases h
theorem rqSame_b {k1 k2 : Nat} {p q : Rat} {x y : Value} {w : World} {b : Bool} (hx : IsRat k1 p x w) (hy : IsRat k2 q y w) (l1 : k1 ≤ 1048576) (h : (p = q ∧ b = true) ∨ (p ≠ q ∧ b = false)) : Calls Tryz.prog 18 #[x, y] w (Ret w (IsV (.bool b))) := by
  rcases h with ⟨h, rfl⟩ | ⟨h, rfl⟩
  · exact rqSame_eq hx hy l1 h
  · exact rqSame_ne hx hy l1 h
theorem cmpQ_neg (p q : Rat) : cmpQ q p = -cmpQ p q := by
  rcases cmpQ_cases p q with ⟨h, e⟩ | ⟨h, e⟩ | ⟨h, e⟩ <;> rw [e]
  · exact cmpQ_gt h
  · exact cmpQ_eq h.symm
  · exact cmpQ_lt h
set_option maxRecDepth 100000 in
set_option maxHeartbeats 8000000 in
theorem Order_1 (w : World) (s1x s1y s2x s2y s3x s3y : Bool) (a1x a1y a2x a2y a3x a3y : Option Addr) (n1x n1y c1x c1y n2x n2y c2x c2y n3x n3y c3x c3y : Nat) (x1n x1d x2n x2d x3n x3d : List Nat) (h1x : Wd w a1x n1x c1x x1n) (h1y : Wd w a1y n1y c1y x1d) (h2x : Wd w a2x n2x c2x x2n) (h2y : Wd w a2y n2y c2y x2d) (h3x : Wd w a3x n3x c3x x3n) (h3y : Wd w a3y n3y c3y x3d) (ht : Tab w) (qa qb qc : Rat) (ha : madeQ s1x s1y x1n x1d 6 = qa) (hb : madeQ s2x s2y x2n x2d 6 = qb) (hc : madeQ s3x s3y x3n x3d 6 = qc) :
    Calls Tryz.prog 5 #[.agg #[.bool s1x, .slice a1x n1x c1x, .bool s1y, .slice a1y n1y c1y], .agg #[.bool s2x, .slice a2x n2x c2x, .bool s2y, .slice a2y n2y c2y], .agg #[.bool s3x, .slice a3x n3x c3x, .bool s3y, .slice a3y n3y c3y]] w (Ret w (IsV (.bool true))) := by
  have Ha := hid ha
  have Hb := hid hb
  have Hc := hid hc
  obtain ⟨nn, hnn⟩ : ∃ x, cmpQ qa qb = x := ⟨_, rfl⟩
  have HN := hid hnn
  obtain ⟨mm, hmm⟩ : ∃ x, cmpQ qb qa = x := ⟨_, rfl⟩
  have HM := hid hmm
  obtain ⟨cb, hcb⟩ : ∃ x, cmpQ qb qc = x := ⟨_, rfl⟩
  have HCB := hid hcb
  obtain ⟨ca, hca⟩ : ∃ x, cmpQ qa qc = x := ⟨_, rfl⟩
  have HCA := hid hca
  obtain ⟨sc, hsc⟩ : ∃ x, qc.num.sign = x := ⟨_, rfl⟩
  have HP := hid hsc
  obtain ⟨cf, hcf⟩ : ∃ x, cmpQ (qa.floor : Rat) qa = x := ⟨_, rfl⟩
  have HF := hid hcf
  obtain ⟨cg, hcg⟩ : ∃ x, cmpQ qa ((qa.floor : Rat) + Rat.divInt 1 1) = x := ⟨_, rfl⟩
  have HG := hid hcg
  obtain ⟨bz, hbz⟩ : ∃ x, (nn == 0) = x := ⟨_, rfl⟩
  have HZ := hid hbz
  obtain ⟨b1, hb1⟩ : ∃ x, decide (nn ≤ 0) = x := ⟨_, rfl⟩
  have HB1 := hid hb1
  obtain ⟨b2, hb2⟩ : ∃ x, decide (cb ≤ 0) = x := ⟨_, rfl⟩
  have HB2 := hid hb2
  obtain ⟨b3, hb3⟩ : ∃ x, (b1 && b2) = x := ⟨_, rfl⟩
  have HB3 := hid hb3
  obtain ⟨b4, hb4⟩ : ∃ x, decide (0 < ca) = x := ⟨_, rfl⟩
  have HB4 := hid hb4
  obtain ⟨bp, hbp⟩ : ∃ x, decide (0 < sc) = x := ⟨_, rfl⟩
  have HP1 := hid hbp
  have HN1 := hid (show decide (nn < -1) = false by rw [← hnn]; rcases cmpQ_cases qa qb with ⟨_, e⟩ | ⟨_, e⟩ | ⟨_, e⟩ <;> rw [e] <;> rfl)
  have HN2 := hid (show decide (1 < nn) = false by rw [← hnn]; rcases cmpQ_cases qa qb with ⟨_, e⟩ | ⟨_, e⟩ | ⟨_, e⟩ <;> rw [e] <;> rfl)
  have HNEG := hid (show IntKind.i64.wrap (-nn) = mm by rw [← hmm, cmpQ_neg qa qb, ← hnn]; rcases cmpQ_cases qa qb with ⟨_, e⟩ | ⟨_, e⟩ | ⟨_, e⟩ <;> rw [e] <;> rfl)
  have HQ := hid (show (qa = qb ∧ bz = true) ∨ (qa ≠ qb ∧ bz = false) by
    rw [← hbz, ← hnn]
    rcases cmpQ_cases qa qb with ⟨h, e⟩ | ⟨h, e⟩ | ⟨h, e⟩ <;> rw [e]
    · exact .inr ⟨fun k => Rat.lt_irrefl (k ▸ h), rfl⟩
    · exact .inl ⟨h, rfl⟩
    · exact .inr ⟨fun k => Rat.lt_irrefl (k ▸ h), rfl⟩)
  have HS := hid (show (qa - qb).num.sign = nn by rw [sub_cmp]; exact hnn)
  have HA := hid (show cmpQ (qa + qc) (qb + qc) = nn by rw [add_cmp]; exact hnn)
  have HX := hid (show bp = true → cmpQ (qa * qc) (qb * qc) = nn from fun h => by
    rw [← hbp, ← hsc, decide_eq_true_iff, Int.sign_pos_iff] at h
    rw [mul_cmp qa qb (pos_num h)]; exact hnn)
  have H34 := hid (show (b3 && b4) = false by
    cases h3 : b3
    · rfl
    rw [h3, Bool.and_eq_true, ← hb1, ← hb2, ← hnn, ← hcb] at hb3
    rw [Bool.true_and, ← hb4, ← hca]
    exact cmpQ_nle (Rat.le_trans (le_of_cmp hb3.1) (le_of_cmp hb3.2)))
  have HF1 := hid (show decide (cf ≤ 0) = true from hcf ▸ cmpQ_le1 (Rat.floor_le qa))
  have HG1 := hid (show decide (cg < 0) = true by rw [← hcg, cmpQ_lt (by have h := Rat.lt_floor_add_one qa; rw [Rat.intCast_add] at h; exact h)]; rfl)
  clear ha hb hc hnn hmm hcb hca hsc hcf hcg hbz hb1 hb2 hb3 hb4 hbp
  obtain ⟨W, hW, S⟩ : ∃ W, W = ((w.alloc (.cells #[.bool s1x, .slice a1x n1x c1x, .bool s1y, .slice a1y n1y c1y] 26)).alloc (.cells #[.bool s2x, .slice a2x n2x c2x, .bool s2y, .slice a2y n2y c2y] 26)).alloc (.cells #[.bool s3x, .slice a3x n3x c3x, .bool s3y, .slice a3y n3y c3y] 26) ∧ Sto w W [((w.heap.size + 1 + 1, 1), IsR s3y x3d), ((w.heap.size + 1 + 1, 0), IsR s3x x3n), ((w.heap.size + 1, 1), IsR s2y x2d), ((w.heap.size + 1, 0), IsR s2x x2n), ((w.heap.size, 1), IsR s1y x1d), ((w.heap.size, 0), IsR s1x x1n)] := ⟨_, rfl, ((((Sto.start w).new2 (w.heap.size) (by simp) s1x s1y a1x a1y n1x c1x n1y c1y 26 (IsR s1x x1n) (IsR s1y x1d) (IsR.gstb _ _) (⟨_, _, _, rfl, h1x⟩) (IsR.gstb _ _) (⟨_, _, _, rfl, h1y⟩)).new2 (w.heap.size + 1) (by simp) s2x s2y a2x a2y n2x c2x n2y c2y 26 (IsR s2x x2n) (IsR s2y x2d) (IsR.gstb _ _) (⟨_, _, _, rfl, (h2x.ext ((Ext.refl _).alloc _))⟩) (IsR.gstb _ _) (⟨_, _, _, rfl, (h2y.ext ((Ext.refl _).alloc _))⟩)).new2 (w.heap.size + 1 + 1) (by simp) s3x s3y a3x a3y n3x c3x n3y c3y 26 (IsR s3x x3n) (IsR s3y x3d) (IsR.gstb _ _) (⟨_, _, _, rfl, ((h3x.ext ((Ext.refl _).alloc _)).ext ((Ext.refl _).alloc _))⟩) (IsR.gstb _ _) (⟨_, _, _, rfl, ((h3y.ext ((Ext.refl _).alloc _)).ext ((Ext.refl _).alloc _))⟩))⟩
  clear h1x h1y h2x h2y h3x h3y
  go_enter Tryz.func5, Tryz.ntmps5
  go_upto_region 1 with (fail)
  rw [← hW]
  clear hW
  refine rgs 2 [some 13, some 7] [IsV (.bool true), IsV (.bool true)] [] ?_ ?_
  · refine Rc (cl0 (en Tryz.func12)  (fun w' hE => examplesQ_f _ (ht.ext (S.ext.trans hE)))) ?_
    refine Rc (mv (Od.lc 0 13)) ?_
    exact RgAll.nil
  intro v W1 e1 hΦ _
  replace S := S.mono e1
  have v1 : v 1 = .bool true := hΦ 1 (by decide)
  simp only [layL, Act.put, List.setIfInBounds_toArray, List.set_cons_zero, List.set_cons_succ, Nat.reduceAdd]
  rw [v1]
  clear v1 hΦ e1
  refine wpList_nil ?_
  go_upto_region 2 with (fail)
  refine rgs 2 [some 14, some 15] [IsV (.bool true), IsV (.bool false)] [] ?_ ?_
  · refine Rc (mv (Od.lit 7)) ?_
    refine Rc (nt (Od.loc 0 14)) ?_
    exact RgAll.nil
  intro v W2 e1 hΦ _
  replace S := S.mono e1
  have v1 : v 1 = .bool false := hΦ 1 (by decide)
  simp only [layL, Act.put, List.setIfInBounds_toArray, List.set_cons_zero, List.set_cons_succ, Nat.reduceAdd]
  rw [v1]
  clear v1 hΦ e1
  refine wpList_nil ?_
  go_upto_region 4 with (fail)
  have hl := hid S.lt; have hw := S.ext.size
  refine rgn 12 [some 16, some 17, some 18, some 19, some 20, some 21, some 8, some 9, some 10, none, none, none] [IsQ (IsR s1x x1n) (IsR s1y x1d), IsQ (IsI 8 qa.num) (IsI 8 ((qa.den : Int))), IsQ (IsR s2x x2n) (IsR s2y x2d), IsQ (IsI 8 qb.num) (IsI 8 ((qb.den : Int))), IsQ (IsR s3x x3n) (IsR s3y x3d), IsQ (IsI 8 qc.num) (IsI 8 ((qc.den : Int))), IsNw W2 2, IsNw W2 2, IsNw W2 2, TT, TT, TT] [6, 7, 8] [none, none, none, none, none, none, none, none, none, some (6, [IsI 8 qa.num, IsI 8 ((qa.den : Int))]), some (7, [IsI 8 qb.num, IsI 8 ((qb.den : Int))]), some (8, [IsI 8 qc.num, IsI 8 ((qc.den : Int))])] [none, none, none, none, none, none, none, none, none, some 6, some 7, some 8] 0 ?_ ?_
  · refine RcK (ldQ S 5 4 (w.heap.size) 0 (Od.lit 3) ld_RawQ rfl rfl) ?_
    refine RcK (cl2 (en Tryz.func13) (Od.lc (Φ := IsQ (IsR s1x x1n) (IsR s1y x1d)) 0 16) Od.con (fun x0 x1 w' hE d0 d1 => by { obtain rfl : x1 = .int .i64 6 := d1; exact Calls.mono (rqMade_f d0 6 (by decide)) fun _ _ h => h.ratz Ha.out (Nat.le_refl _) })) ?_
    refine RcK (ldQ S 3 2 (w.heap.size + 1) 0 (Od.lit 4) ld_RawQ rfl rfl) ?_
    refine RcK (cl2 (en Tryz.func13) (Od.lc (Φ := IsQ (IsR s2x x2n) (IsR s2y x2d)) 2 18) Od.con (fun x0 x1 w' hE d0 d1 => by { obtain rfl : x1 = .int .i64 6 := d1; exact Calls.mono (rqMade_f d0 6 (by decide)) fun _ _ h => h.ratz Hb.out (Nat.le_refl _) })) ?_
    refine RcK (ldQ S 1 0 (w.heap.size + 1 + 1) 0 (Od.lit 5) ld_RawQ rfl rfl) ?_
    refine RcK (cl2 (en Tryz.func13) (Od.lc (Φ := IsQ (IsR s3x x3n) (IsR s3y x3d)) 4 20) Od.con (fun x0 x1 w' hE d0 d1 => by { obtain rfl : x1 = .int .i64 6 := d1; exact Calls.mono (rqMade_f d0 6 (by decide)) fun _ _ h => h.ratz Hc.out (Nat.le_refl _) })) ?_
    refine RcK (alN al_Rat) ?_
    refine RcK (alN al_Rat) ?_
    refine RcK (alN al_Rat) ?_
    refine RcS 6 (sQ st_Rat (Od.lc (Φ := IsQ (IsI 8 qa.num) (IsI 8 ((qa.den : Int)))) 1 17) (IsI.gstb _ _) (IsI.gstb _ _)) ?_
    refine RcS 7 (sQ st_Rat (Od.lc (Φ := IsQ (IsI 8 qb.num) (IsI 8 ((qb.den : Int)))) 3 19) (IsI.gstb _ _) (IsI.gstb _ _)) ?_
    refine RcS 8 (sQ st_Rat (Od.lc (Φ := IsQ (IsI 8 qc.num) (IsI 8 ((qc.den : Int)))) 5 21) (IsI.gstb _ _) (IsI.gstb _ _)) ?_
    exact RgAllN.nil
  intro v W3 e1 hΦ hS hne
  replace S := S.mono e1
  obtain ⟨g8, v6, q1, S2⟩ := S.addQ (hΦ 6 (by decide) rfl) (hS 9 (by decide) _ _ rfl) hw (IsI.gstb _ _) (IsI.gstb _ _)
  replace S := S2 (ApartO.old hl.out q1); clear S2
  obtain ⟨g9, v7, q2, S2⟩ := S.addQ (hΦ 7 (by decide) rfl) (hS 10 (by decide) _ _ rfl) hw (IsI.gstb _ _) (IsI.gstb _ _)
  replace S := S2 (ApartO.cons (fun h => hne 6 7 (by decide) (by decide) (by decide) (by decide) (by decide) rfl rfl (by rw [v6, v7, h])) (ApartO.cons (fun h => hne 6 7 (by decide) (by decide) (by decide) (by decide) (by decide) rfl rfl (by rw [v6, v7, h])) (ApartO.old hl.out q2))); clear S2
  obtain ⟨g10, v8, q3, S2⟩ := S.addQ (hΦ 8 (by decide) rfl) (hS 11 (by decide) _ _ rfl) hw (IsI.gstb _ _) (IsI.gstb _ _)
  replace S := S2 (ApartO.cons (fun h => hne 7 8 (by decide) (by decide) (by decide) (by decide) (by decide) rfl rfl (by rw [v7, v8, h])) (ApartO.cons (fun h => hne 7 8 (by decide) (by decide) (by decide) (by decide) (by decide) rfl rfl (by rw [v7, v8, h])) (ApartO.cons (fun h => hne 6 8 (by decide) (by decide) (by decide) (by decide) (by decide) rfl rfl (by rw [v6, v8, h])) (ApartO.cons (fun h => hne 6 8 (by decide) (by decide) (by decide) (by decide) (by decide) rfl rfl (by rw [v6, v8, h])) (ApartO.old hl.out q3))))); clear S2
  simp only [layL, Act.put, List.setIfInBounds_toArray, List.set_cons_zero, List.set_cons_succ, Nat.reduceAdd]
  rw [v6, v7, v8]
  clear hl hw hne v6 v7 v8 hΦ hS e1
  refine wpAny_done (by kernel_rfl) ?_ _
  go_upto_region 5 with (fail)
  refine rgs 4 [some 22, some 23, some 24, some 11] [IsQ (IsI 8 qa.num) (IsI 8 ((qa.den : Int))), IsQ (IsI 8 qb.num) (IsI 8 ((qb.den : Int))), IsV (.int .i64 nn), IsV (.int .i64 nn)] [] ?_ ?_
  · refine Rc (ldQ S 5 4 (g8) 0 (Od.lit 8) ld_Rat rfl rfl) ?_
    refine Rc (ldQ S 3 2 (g9) 0 (Od.lit 9) ld_Rat rfl rfl) ?_
    refine Rc (cl2 (en Tryz.func21) (Od.lc (Φ := IsQ (IsI 8 qa.num) (IsI 8 ((qa.den : Int)))) 0 22) (Od.lc (Φ := IsQ (IsI 8 qb.num) (IsI 8 ((qb.den : Int)))) 1 23) (fun x0 x1 w' hE d0 d1 => Calls.mono (qCmp_f d0 d1 (by decide) (by decide)) fun _ _ h => h.int (HN.out))) ?_
    refine Rc (mv (Od.lc 2 24)) ?_
    exact RgAll.nil
  intro v W4 e1 hΦ _
  replace S := S.mono e1
  have v3 : v 3 = .int .i64 nn := hΦ 3 (by decide)
  simp only [layL, Act.put, List.setIfInBounds_toArray, List.set_cons_zero, List.set_cons_succ, Nat.reduceAdd]
  rw [v3]
  clear v3 hΦ e1
  refine wpList_nil ?_
  go_upto_region 6 with (fail)
  refine rgs 30 [some 25, some 26, some 27, some 28, some 29, some 30, some 31, some 32, some 33, some 34, some 35, some 36, some 37, some 38, some 39, some 40, some 41, some 42, some 43, some 44, some 45, some 46, some 47, some 48, some 49, some 50, some 51, some 52, some 53, some 54] [IsV (.int .i64 nn), IsV (.bool false), IsV (.bool false), IsV (.int .i64 nn), IsV (.bool false), IsV (.bool false), IsV (.bool false), IsQ (IsI 8 qb.num) (IsI 8 ((qb.den : Int))), IsQ (IsI 8 qa.num) (IsI 8 ((qa.den : Int))), IsV (.int .i64 mm), IsV (.int .i64 nn), IsV (.int .i64 mm), IsV (.bool false), IsV (.bool false), IsV (.bool false), IsV (.int .i64 nn), IsV (.bool bz), IsQ (IsI 8 qa.num) (IsI 8 ((qa.den : Int))), IsQ (IsI 8 qb.num) (IsI 8 ((qb.den : Int))), IsV (.bool bz), IsV (.bool false), IsV (.bool false), IsV (.bool false), IsQ (IsI 8 qa.num) (IsI 8 ((qa.den : Int))), IsQ (IsI 8 qb.num) (IsI 8 ((qb.den : Int))), IsQ (IsI 17 ((qa - qb).num)) (IsI 17 (((qa - qb).den : Int))), IsV (.int .i64 nn), IsV (.int .i64 nn), IsV (.bool false), IsV (.bool false)] [] ?_ ?_
  · refine Rc (mv (Od.lit 11)) ?_
    refine Rc (bn (r := .bool false) (Od.loc 0 25) Od.con (hr := fun w => by have hx9 := HN1.out; go_simp)) ?_
    refine Rc (mv (Od.lc 1 26)) ?_
    refine RcG 2 27 false (mv (Od.lit 11)) ?_
    refine RcG 2 27 false (bn (r := .bool false) (Od.loc 3 28) Od.con (hr := fun w => by have hx9 := HN2.out; go_simp)) ?_
    refine Rc (pk (Od.loc 2 27) (Od.lc 4 29)) ?_
    refine Rc (mv (Od.lc 5 30)) ?_
    refine RcG 6 31 false (ldQ S 3 2 (g9) 0 (Od.lit 9) ld_Rat rfl rfl) ?_
    refine RcG 6 31 false (ldQ S 5 4 (g8) 0 (Od.lit 8) ld_Rat rfl rfl) ?_
    refine RcG 6 31 false (cl2 (en Tryz.func21) (Od.lc (Φ := IsQ (IsI 8 qb.num) (IsI 8 ((qb.den : Int)))) 7 32) (Od.lc (Φ := IsQ (IsI 8 qa.num) (IsI 8 ((qa.den : Int)))) 8 33) (fun x0 x1 w' hE d0 d1 => Calls.mono (qCmp_f d0 d1 (by decide) (by decide)) fun _ _ h => h.int (HM.out))) ?_
    refine RcG 6 31 false (mv (Od.lit 11)) ?_
    refine RcG 6 31 false (un (r := .int .i64 mm) (Od.loc 10 35) (hr := fun w => by have hx9 := HNEG.out; go_simp)) ?_
    refine RcG 6 31 false (bn (r := .bool false) (Od.loc 9 34) (Od.loc 11 36) (hr := fun w => by go_simp)) ?_
    refine Rc (pk (Od.loc 6 31) (Od.lc 12 37)) ?_
    refine Rc (mv (Od.lc 13 38)) ?_
    refine RcG 14 39 false (mv (Od.lit 11)) ?_
    refine RcG 14 39 false (bn (r := .bool bz) (Od.loc 15 40) Od.con (hr := fun w => by have hx9 := HZ.out; go_simp)) ?_
    refine RcG 14 39 false (ldQ S 5 4 (g8) 0 (Od.lit 8) ld_Rat rfl rfl) ?_
    refine RcG 14 39 false (ldQ S 3 2 (g9) 0 (Od.lit 9) ld_Rat rfl rfl) ?_
    refine RcG 14 39 false (cl2 (en Tryz.func18) (Od.lc (Φ := IsQ (IsI 8 qa.num) (IsI 8 ((qa.den : Int)))) 17 42) (Od.lc (Φ := IsQ (IsI 8 qb.num) (IsI 8 ((qb.den : Int)))) 18 43) (fun x0 x1 w' hE d0 d1 => rqSame_b d0 d1 (by decide) HQ.out)) ?_
    refine RcG 14 39 false (bn (r := .bool false) (Od.loc 16 41) (Od.loc 19 44) (hr := fun w => by go_simp)) ?_
    refine Rc (pk (Od.loc 14 39) (Od.lc 20 45)) ?_
    refine Rc (mv (Od.lc 21 46)) ?_
    refine RcG 22 47 false (ldQ S 5 4 (g8) 0 (Od.lit 8) ld_Rat rfl rfl) ?_
    refine RcG 22 47 false (ldQ S 3 2 (g9) 0 (Od.lit 9) ld_Rat rfl rfl) ?_
    refine RcG 22 47 false (cl2 (en Tryz.func36) (Od.lc (Φ := IsQ (IsI 8 qa.num) (IsI 8 ((qa.den : Int)))) 23 48) (Od.lc (Φ := IsQ (IsI 8 qb.num) (IsI 8 ((qb.den : Int)))) 24 49) (fun x0 x1 w' hE d0 d1 => qSub_f d0 d1 (by decide) (by decide))) ?_
    refine RcG 22 47 false (cl1 (en Tryz.func35) (Od.lc (Φ := IsQ (IsI 17 ((qa - qb).num)) (IsI 17 (((qa - qb).den : Int)))) 25 50) (fun x0 w' hE d0 => Calls.mono (qSign_f d0) fun _ _ h => h.int HS.out)) ?_
    refine RcG 22 47 false (mv (Od.lit 11)) ?_
    refine RcG 22 47 false (bn (r := .bool false) (Od.loc 26 51) (Od.loc 27 52) (hr := fun w => by go_simp)) ?_
    refine Rc (pk (Od.loc 22 47) (Od.lc 28 53)) ?_
    exact RgAll.nil
  intro v W5 e1 hΦ _
  replace S := S.mono e1
  have v29 : v 29 = .bool false := hΦ 29 (by decide)
  simp only [layL, Act.put, List.setIfInBounds_toArray, List.set_cons_zero, List.set_cons_succ, Nat.reduceAdd]
  rw [v29]
  clear v29 hΦ e1
  refine wpList_nil ?_
  go_upto_region 8 with (fail)
  refine rg 25 [some 55, some 56, some 57, some 58, some 59, some 60, some 61, some 62, some 63, some 64, some 65, some 66, some 67, some 68, some 69, some 70, some 71, some 72, some 73, some 74, some 75, some 76, some 77, some 78, some 79] [IsV (.int .i64 nn), IsV (.bool b1), IsV (.bool b1), IsIf (b1) (IsQ (IsI 8 qb.num) (IsI 8 ((qb.den : Int)))), IsIf (b1) (IsQ (IsI 8 qc.num) (IsI 8 ((qc.den : Int)))), IsIf (b1) (IsV (.int .i64 cb)), IsIf (b1) (IsV (.bool b2)), IsV (.bool b3), IsV (.bool b3), IsIf (b3) (IsQ (IsI 8 qa.num) (IsI 8 ((qa.den : Int)))), IsIf (b3) (IsQ (IsI 8 qc.num) (IsI 8 ((qc.den : Int)))), IsIf (b3) (IsV (.int .i64 ca)), IsIf (b3) (IsV (.bool b4)), IsV (.bool false), IsV (.bool false), IsQ (IsI 8 qa.num) (IsI 8 ((qa.den : Int))), IsQ (IsI 8 qc.num) (IsI 8 ((qc.den : Int))), IsQ (IsI 17 ((qa + qc).num)) (IsI 17 (((qa + qc).den : Int))), IsQ (IsI 8 qb.num) (IsI 8 ((qb.den : Int))), IsQ (IsI 8 qc.num) (IsI 8 ((qc.den : Int))), IsQ (IsI 17 ((qb + qc).num)) (IsI 17 (((qb + qc).den : Int))), IsV (.int .i64 nn), IsV (.int .i64 nn), IsV (.bool false), IsV (.bool false)] [] 0 ?_ ?_ (hst := by repeat' (first | exact trivial | apply IsIf.stb | exact IsV.stb _ | exact IsI.stb _ _ | apply IsQ.stb | apply And.intro))
  · refine Rc (mv (Od.lit 11)) ?_
    refine Rc (bn (r := .bool b1) (Od.loc 0 55) Od.con (hr := fun w => by have hx9 := HB1.out; go_simp)) ?_
    refine Rc (mv (Od.lc 1 56)) ?_
    refine RcB 2 57 b1 true (fun hb => by subst hb; exact ldQ S 3 2 (g9) 0 (Od.lit 9) ld_Rat rfl rfl) ?_
    refine RcB 2 57 b1 true (fun hb => by subst hb; exact ldQ S 1 0 (g10) 0 (Od.lit 10) ld_Rat rfl rfl) ?_
    refine RcB 2 57 b1 true (fun hb => by subst hb; exact cl2 (en Tryz.func21) (Od.lc (Φ := IsQ (IsI 8 qb.num) (IsI 8 ((qb.den : Int)))) 3 58) (Od.lc (Φ := IsQ (IsI 8 qc.num) (IsI 8 ((qc.den : Int)))) 4 59) (fun x0 x1 w' hE d0 d1 => Calls.mono (qCmp_f d0 d1 (by decide) (by decide)) fun _ _ h => h.int (HCB.out))) ?_
    refine RcB 2 57 b1 true (fun hb => by subst hb; exact bn (r := .bool b2) (Od.loc 5 60) Od.con (hr := fun w => by have hx9 := HB2.out; go_simp)) ?_
    refine Rc (pkA (b2 := b2) (Od.loc 2 57) (fun hb => by subst hb; exact Od.lc 6 61) (HB3.out)) ?_
    refine Rc (mv (Od.lc 7 62)) ?_
    refine RcB 8 63 b3 true (fun hb => by subst hb; exact ldQ S 5 4 (g8) 0 (Od.lit 8) ld_Rat rfl rfl) ?_
    refine RcB 8 63 b3 true (fun hb => by subst hb; exact ldQ S 1 0 (g10) 0 (Od.lit 10) ld_Rat rfl rfl) ?_
    refine RcB 8 63 b3 true (fun hb => by subst hb; exact cl2 (en Tryz.func21) (Od.lc (Φ := IsQ (IsI 8 qa.num) (IsI 8 ((qa.den : Int)))) 9 64) (Od.lc (Φ := IsQ (IsI 8 qc.num) (IsI 8 ((qc.den : Int)))) 10 65) (fun x0 x1 w' hE d0 d1 => Calls.mono (qCmp_f d0 d1 (by decide) (by decide)) fun _ _ h => h.int (HCA.out))) ?_
    refine RcB 8 63 b3 true (fun hb => by subst hb; exact bn (r := .bool b4) (Od.loc 11 66) Od.con (hr := fun w => by have hx9 := HB4.out; go_simp)) ?_
    refine Rc (pkA (b2 := b4) (Od.loc 8 63) (fun hb => by subst hb; exact Od.lc 12 67) (H34.out)) ?_
    refine Rc (mv (Od.lc 13 68)) ?_
    refine RcG 14 69 false (ldQ S 5 4 (g8) 0 (Od.lit 8) ld_Rat rfl rfl) ?_
    refine RcG 14 69 false (ldQ S 1 0 (g10) 0 (Od.lit 10) ld_Rat rfl rfl) ?_
    refine RcG 14 69 false (cl2 (en Tryz.func37) (Od.lc (Φ := IsQ (IsI 8 qa.num) (IsI 8 ((qa.den : Int)))) 15 70) (Od.lc (Φ := IsQ (IsI 8 qc.num) (IsI 8 ((qc.den : Int)))) 16 71) (fun x0 x1 w' hE d0 d1 => qAdd_f d0 d1 (by decide) (by decide))) ?_
    refine RcG 14 69 false (ldQ S 3 2 (g9) 0 (Od.lit 9) ld_Rat rfl rfl) ?_
    refine RcG 14 69 false (ldQ S 1 0 (g10) 0 (Od.lit 10) ld_Rat rfl rfl) ?_
    refine RcG 14 69 false (cl2 (en Tryz.func37) (Od.lc (Φ := IsQ (IsI 8 qb.num) (IsI 8 ((qb.den : Int)))) 18 73) (Od.lc (Φ := IsQ (IsI 8 qc.num) (IsI 8 ((qc.den : Int)))) 19 74) (fun x0 x1 w' hE d0 d1 => qAdd_f d0 d1 (by decide) (by decide))) ?_
    refine RcG 14 69 false (cl2 (en Tryz.func21) (Od.lc (Φ := IsQ (IsI 17 ((qa + qc).num)) (IsI 17 (((qa + qc).den : Int)))) 17 72) (Od.lc (Φ := IsQ (IsI 17 ((qb + qc).num)) (IsI 17 (((qb + qc).den : Int)))) 20 75) (fun x0 x1 w' hE d0 d1 => Calls.mono (qCmp_f d0 d1 (by decide) (by decide)) fun _ _ h => h.int (HA.out))) ?_
    refine RcG 14 69 false (mv (Od.lit 11)) ?_
    refine RcG 14 69 false (bn (r := .bool false) (Od.loc 21 76) (Od.loc 22 77) (hr := fun w => by go_simp)) ?_
    refine Rc (pk (Od.loc 14 69) (Od.lc 23 78)) ?_
    exact RgAll.nil
  intro v W6 e1 hΦ _
  replace S := S.mono e1
  have v24 : v 24 = .bool false := hΦ 24 (by decide)
  simp only [layL, Act.put, List.setIfInBounds_toArray, List.set_cons_zero, List.set_cons_succ, Nat.reduceAdd]
  rw [v24]
  clear v24 hΦ e1
  refine wpAny_done (by kernel_rfl) ?_ _
  go_upto_region 10 with (fail)
  refine rg 14 [some 80, some 81, some 82, some 83, some 84, some 85, some 86, some 87, some 88, some 89, some 90, some 91, some 92, some 93] [IsQ (IsI 8 qc.num) (IsI 8 ((qc.den : Int))), IsV (.int .i64 sc), IsV (.bool bp), IsV (.bool bp), IsIf (bp) (IsQ (IsI 8 qa.num) (IsI 8 ((qa.den : Int)))), IsIf (bp) (IsQ (IsI 8 qc.num) (IsI 8 ((qc.den : Int)))), IsIf (bp) (IsQ (IsI 16 ((qa * qc).num)) (IsI 16 (((qa * qc).den : Int)))), IsIf (bp) (IsQ (IsI 8 qb.num) (IsI 8 ((qb.den : Int)))), IsIf (bp) (IsQ (IsI 8 qc.num) (IsI 8 ((qc.den : Int)))), IsIf (bp) (IsQ (IsI 16 ((qb * qc).num)) (IsI 16 (((qb * qc).den : Int)))), IsIf (bp) (IsV (.int .i64 nn)), IsIf (bp) (IsV (.int .i64 nn)), IsIf (bp) (IsV (.bool false)), IsV (.bool false)] [] 0 ?_ ?_ (hst := by repeat' (first | exact trivial | apply IsIf.stb | exact IsV.stb _ | exact IsI.stb _ _ | apply IsQ.stb | apply And.intro))
  · refine Rc (ldQ S 1 0 (g10) 0 (Od.lit 10) ld_Rat rfl rfl) ?_
    refine Rc (cl1 (en Tryz.func35) (Od.lc (Φ := IsQ (IsI 8 qc.num) (IsI 8 ((qc.den : Int)))) 0 80) (fun x0 w' hE d0 => Calls.mono (qSign_f d0) fun _ _ h => h.int HP.out)) ?_
    refine Rc (bn (r := .bool bp) (Od.loc 1 81) Od.con (hr := fun w => by have hx9 := HP1.out; go_simp)) ?_
    refine Rc (mv (Od.lc 2 82)) ?_
    refine RcB 3 83 bp true (fun hb => by subst hb; exact ldQ S 5 4 (g8) 0 (Od.lit 8) ld_Rat rfl rfl) ?_
    refine RcB 3 83 bp true (fun hb => by subst hb; exact ldQ S 1 0 (g10) 0 (Od.lit 10) ld_Rat rfl rfl) ?_
    refine RcB 3 83 bp true (fun hb => by subst hb; exact cl2 (en Tryz.func38) (Od.lc (Φ := IsQ (IsI 8 qa.num) (IsI 8 ((qa.den : Int)))) 4 84) (Od.lc (Φ := IsQ (IsI 8 qc.num) (IsI 8 ((qc.den : Int)))) 5 85) (fun x0 x1 w' hE d0 d1 => qMul_f d0 d1 (by decide) (by decide))) ?_
    refine RcB 3 83 bp true (fun hb => by subst hb; exact ldQ S 3 2 (g9) 0 (Od.lit 9) ld_Rat rfl rfl) ?_
    refine RcB 3 83 bp true (fun hb => by subst hb; exact ldQ S 1 0 (g10) 0 (Od.lit 10) ld_Rat rfl rfl) ?_
    refine RcB 3 83 bp true (fun hb => by subst hb; exact cl2 (en Tryz.func38) (Od.lc (Φ := IsQ (IsI 8 qb.num) (IsI 8 ((qb.den : Int)))) 7 87) (Od.lc (Φ := IsQ (IsI 8 qc.num) (IsI 8 ((qc.den : Int)))) 8 88) (fun x0 x1 w' hE d0 d1 => qMul_f d0 d1 (by decide) (by decide))) ?_
    refine RcB 3 83 bp true (fun hb => by subst hb; exact cl2 (en Tryz.func21) (Od.lc (Φ := IsQ (IsI 16 ((qa * qc).num)) (IsI 16 (((qa * qc).den : Int)))) 6 86) (Od.lc (Φ := IsQ (IsI 16 ((qb * qc).num)) (IsI 16 (((qb * qc).den : Int)))) 9 89) (fun x0 x1 w' hE d0 d1 => Calls.mono (qCmp_f d0 d1 (by decide) (by decide)) fun _ _ h => h.int (HX.out rfl))) ?_
    refine RcB 3 83 bp true (fun hb => by subst hb; exact mv (Od.lit 11)) ?_
    refine RcB 3 83 bp true (fun hb => by subst hb; exact bn (r := .bool false) (Od.loc 10 90) (Od.loc 11 91) (hr := fun w => by go_simp)) ?_
    refine Rc (pkA (b2 := false) (Od.loc 3 83) (fun hb => by subst hb; exact Od.lc 12 92) (Bool.and_false _)) ?_
    exact RgAll.nil
  intro v W7 e1 hΦ _
  replace S := S.mono e1
  have v13 : v 13 = .bool false := hΦ 13 (by decide)
  simp only [layL, Act.put, List.setIfInBounds_toArray, List.set_cons_zero, List.set_cons_succ, Nat.reduceAdd]
  rw [v13]
  clear v13 hΦ e1
  refine wpAny_done (by kernel_rfl) ?_ _
  go_upto_region 12 with (fail)
  have hl := hid S.lt; have hw := S.ext.size
  refine rgs 4 [some 94, some 95, some 96, some 12] [IsQ (IsI 8 qa.num) (IsI 8 ((qa.den : Int))), IsI 8 qa.floor, IsQ (IsI 8 qa.floor) (IsI 2 1), IsBo W7 2] [3] ?_ ?_
  · refine Rc (ldQ S 5 4 (g8) 0 (Od.lit 8) ld_Rat rfl rfl) ?_
    refine Rc (cl1 (en Tryz.func39) (Od.lc (Φ := IsQ (IsI 8 qa.num) (IsI 8 ((qa.den : Int)))) 0 94) (fun x0 w' hE d0 => qFloor_f d0 (by decide))) ?_
    refine Rc (cl1 (en Tryz.func29) (Od.lc (Φ := IsI 8 qa.floor) 1 95) (fun x0 w' hE d0 => rqWhole_c d0)) ?_
    refine Rc (al al_Rat) ?_
    exact RgAll.nil
  intro v W8 e1 hΦ _
  replace S := S.mono e1
  have h96 := hΦ 2 (by decide)
  obtain ⟨g12, v3, q5, b4, _⟩ := (hΦ 3 (by decide) : IsBo W7 2 (v 3) W8)
  replace S := S.addN 2 (ApartO.old hl.out q5) (Nat.le_trans hw q5) b4
  simp only [newF, List.cons_append, List.nil_append] at S
  simp only [layL, Act.put, List.setIfInBounds_toArray, List.set_cons_zero, List.set_cons_succ, Nat.reduceAdd]
  rw [v3]
  clear b4 hl hw v3 hΦ e1
  try simp only [List.drop_succ_cons, List.drop_zero]
  (with_reducible refine stL ?_ (by rfl)); intro KK hKK; refine stQ S 1 0 (g12) 0 h96 (IsI.gstb _ _) (IsI.gstb _ _) st_Rat (fun W9 S2 G2 => hKK _ _ ?_) rfl rfl
  replace S := S2; clear S2 G2 hKK KK h96
  simp only [List.set_cons_zero, List.set_cons_succ] at S
  refine wpList_nil ?_
  go_upto_region 13 with (fail)
  refine rg 16 [some 97, some 98, some 99, some 100, some 101, some 102, some 103, some 104, some 105, some 106, some 107, some 108, some 109, some 110, some 111, some 6] [IsQ (IsI 8 qa.floor) (IsI 2 1), IsQ (IsI 8 qa.num) (IsI 8 ((qa.den : Int))), IsV (.int .i64 cf), IsV (.bool true), IsV (.bool true), IsQ (IsI 8 qa.num) (IsI 8 ((qa.den : Int))), IsQ (IsI 8 qa.floor) (IsI 2 1), IsQ (IsI 2 ((Rat.divInt 1 1).num)) (IsI 2 (((Rat.divInt 1 1).den : Int))), IsQ (IsI 11 (((qa.floor : Rat) + Rat.divInt 1 1).num)) (IsI 11 ((((qa.floor : Rat) + Rat.divInt 1 1).den : Int))), IsV (.int .i64 cg), IsV (.bool true), IsV (.bool true), IsV (.bool true), IsV (.bool true), IsV (.bool true), IsV (.bool true)] [] 0 ?_ ?_
  · refine Rc (ldQ S 1 0 (g12) 0 (Od.lit 12) ld_Rat rfl rfl) ?_
    refine Rc (ldQ S 7 6 (g8) 0 (Od.lit 8) ld_Rat rfl rfl) ?_
    refine Rc (cl2 (en Tryz.func21) (Od.lc (Φ := IsQ (IsI 8 qa.floor) (IsI 2 1)) 0 97) (Od.lc (Φ := IsQ (IsI 8 qa.num) (IsI 8 ((qa.den : Int)))) 1 98) (fun x0 x1 w' hE d0 d1 => Calls.mono (qCmp_f (isQ_intz d0 (by decide)) d1 (by decide) (by decide)) fun _ _ h => h.int HF.out)) ?_
    refine Rc (bn (r := .bool true) (Od.loc 2 99) Od.con (hr := fun w => by have hx9 := HF1.out; go_simp)) ?_
    refine Rc (mv (Od.lc 3 100)) ?_
    refine RcG 4 101 true (ldQ S 7 6 (g8) 0 (Od.lit 8) ld_Rat rfl rfl) ?_
    refine RcG 4 101 true (ldQ S 1 0 (g12) 0 (Od.lit 12) ld_Rat rfl rfl) ?_
    refine RcG 4 101 true (cl2 (en Tryz.func27) Od.con Od.con (fun x0 x1 w' hE d0 d1 => by { obtain rfl : x0 = .int .i64 1 := d0; obtain rfl : x1 = .int .i64 1 := d1; exact rqOf_f w' 1 1 (by decide) (by decide) (by decide) })) ?_
    refine RcG 4 101 true (cl2 (en Tryz.func37) (Od.lc (Φ := IsQ (IsI 8 qa.floor) (IsI 2 1)) 6 103) (Od.lc (Φ := IsQ (IsI 2 ((Rat.divInt 1 1).num)) (IsI 2 (((Rat.divInt 1 1).den : Int)))) 7 104) (fun x0 x1 w' hE d0 d1 => qAdd_f (isQ_intz d0 (by decide)) d1 (by decide) (by decide))) ?_
    refine RcG 4 101 true (cl2 (en Tryz.func21) (Od.lc (Φ := IsQ (IsI 8 qa.num) (IsI 8 ((qa.den : Int)))) 5 102) (Od.lc (Φ := IsQ (IsI 11 (((qa.floor : Rat) + Rat.divInt 1 1).num)) (IsI 11 ((((qa.floor : Rat) + Rat.divInt 1 1).den : Int)))) 8 105) (fun x0 x1 w' hE d0 d1 => Calls.mono (qCmp_f d0 d1 (by decide) (by decide)) fun _ _ h => h.int (HG.out))) ?_
    refine RcG 4 101 true (bn (r := .bool true) (Od.loc 9 106) Od.con (hr := fun w => by have hx9 := HG1.out; go_simp)) ?_
    refine Rc (pk (Od.loc 4 101) (Od.lc 10 107)) ?_
    refine Rc (mv (Od.lc 11 108)) ?_
    refine RcG 12 109 true (mv (Od.lit 7)) ?_
    refine Rc (pk (Od.loc 12 109) (Od.lc 13 110)) ?_
    refine Rc (mv (Od.lc 14 111)) ?_
    exact RgAll.nil
  intro v W10 e1 hΦ _
  replace S := S.mono e1
  have v15 : v 15 = .bool true := hΦ 15 (by decide)
  simp only [layL, Act.put, List.setIfInBounds_toArray, List.set_cons_zero, List.set_cons_succ, Nat.reduceAdd]
  rw [v15]
  clear v15 hΦ e1
  refine wpAny_done (by kernel_rfl) ?_ _
  go_wp2_with fail
  exact bodyPost_ret (v := .bool true) (by simp [results, Tryz.results5, go_sem]) rfl (⟨_, rfl, S.ext, rfl⟩)

theorem Order_c (w : World) (s1x s1y s2x s2y s3x s3y : Bool) (a1x a1y a2x a2y a3x a3y : Option Addr) (n1x n1y c1x c1y n2x n2y c2x c2y n3x n3y c3x c3y : Nat) (x1n x1d x2n x2d x3n x3d : List Nat) (h1x : Wd w a1x n1x c1x x1n) (h1y : Wd w a1y n1y c1y x1d) (h2x : Wd w a2x n2x c2x x2n) (h2y : Wd w a2y n2y c2y x2d) (h3x : Wd w a3x n3x c3x x3n) (h3y : Wd w a3y n3y c3y x3d) (ht : Tab w) :
    Calls Tryz.prog 5 #[.agg #[.bool s1x, .slice a1x n1x c1x, .bool s1y, .slice a1y n1y c1y], .agg #[.bool s2x, .slice a2x n2x c2x, .bool s2y, .slice a2y n2y c2y], .agg #[.bool s3x, .slice a3x n3x c3x, .bool s3y, .slice a3y n3y c3y]] w (Ret w (IsV (.bool true))) := Order_1 w s1x s1y s2x s2y s3x s3y a1x a1y a2x a2y a3x a3y n1x n1y c1x c1y n2x n2y c2x c2y n3x n3y c3x c3y x1n x1d x2n x2d x3n x3d h1x h1y h2x h2y h3x h3y ht _ _ _ rfl rfl rfl
end Go.Proofs.YtcgdkfadcglekaaGreatDoor
namespace Go.Proofs.YtcgdkfadcglekaaGreatDoor
open Go Go.RowKit Go.ChangeShapes Go.WideShapes Go.ChangeAt

set_option maxRecDepth 100000 in
theorem rationalOrder_lifted (os : Os) (started : os.Started) (H : Type) (enc : TypeId × Value → H) :
    ReturnsInHanded {} Tryz.checked os 5 .any (fun w args => (Rows.rationalOrderSpec.pre enc Tryz.prog Tryz.f5 [] false w args ∧ laidMetH Tryz.prog laid3 w) ∧ sizedMet enc Tryz.prog Tryz.f5 (OpenSpec.ofChange Rows.rationalOrderSpec) false w args)
      (Rows.rationalOrderSpec.post enc Tryz.prog Tryz.f5 false true false false) := by
  refine returnsInHanded_of_change_and (C := Tryz.checked) (X := fun w _ => laidMetH Tryz.prog laid3 w) (fun _ _ _ hh h => h.of_heap hh) own started (by kernel_rfl) Tryz.func5
    (ChangeSpec.witness_shaped (enc := enc) (C := Tryz.checked) (os := os) (X := fun w _ => laidMetH Tryz.prog laid3 w) false (World.doorLaid Tryz.prog 2000 os) #[.agg #[.bool false, .slice none 0 0, .bool false, .slice none 0 0], .agg #[.bool false, .slice none 0 0, .bool false, .slice none 0 0], .agg #[.bool false, .slice none 0 0, .bool false, .slice none 0 0]] 8 rfl (World.shaped_of_RefB (by kernel_rfl) (by kernel_rfl)) (by kernel_rfl) (by kernel_rfl) (by kernel_rfl) (door_met os _)) ?_
  intro W base args ds gs before hval0 hW _ _ hL _
  have hval : ∀ (j : Nat) t v, Tryz.f5.params[j]? = some t → args[j]? = some v → Value.okWide Tryz.prog W .any base t v := hval0
  have hW' := hW
  obtain ⟨p, q, hA0, hV, rfl, hfz, hnd⟩ := hW
  have hA : DataW.TrodAll enc Tryz.prog W 0 (fun _ => true) true Tryz.f5.params.toList args.toList ds p := hA0
  rw [Tryz.params5] at hA hval
  obtain ⟨v1, v2, v3, d1, d2, d3, p1, p2, p3, rfl, rfl, rfl, k1, k2, k3⟩ := trodAll_three hA
  obtain ⟨rfl, rfl⟩ := trodVars_none hV
  obtain ⟨s1x, a1x, n1x, c1x, x1n, s1y, a1y, n1y, c1y, x1d, rfl, w1x, w1y, r1⟩ := rawq_open (hval 0 26 v1 rfl rfl) k1
  obtain ⟨s2x, a2x, n2x, c2x, x2n, s2y, a2y, n2y, c2y, x2d, rfl, w2x, w2y, r2⟩ := rawq_open (hval 1 26 v2 rfl rfl) k2
  obtain ⟨s3x, a3x, n3x, c3x, x3n, s3y, a3y, n3y, c3y, x3d, rfl, w3x, w3y, r3⟩ := rawq_open (hval 2 26 v3 rfl rfl) k3
  clear hA0 hval0
  refine (Order_c W s1x s1y s2x s2y s3x s3y a1x a1y a2x a2y a3x a3y n1x n1y c1x c1y n2x n2y c2x c2y n3x n3y c3x c3y x1n x1d x2n x2d x3n x3d w1x w1y w2x w2y w3x w3y (tab_of_laid hL)).mono fun e W' ⟨x, he, hb, hx⟩ => ?_
  have hx : x = .bool true := hx
  subst he; subst hx
  refine ⟨_, rfl, post_of_below (pa := p1 ++ (p2 ++ p3)) (pv := []) hW' (fun _ _ _ => trodAll_mk1 (shut_bool Tryz.underlying4 true)) (fun sp hsp => ?_) (fun _ _ => rfl) (by simp) hb (ok_one (by kernel_rfl) rfl (okWide_bool_mk Tryz.underlying4 _))⟩
  rw [Tryz.params5]
  exact trodAll_mk3 (r1 W' sp hb fun q hq => hsp q (by simp [hq])) (r2 W' sp hb fun q hq => hsp q (by simp [hq])) (r3 W' sp hb fun q hq => hsp q (by simp [hq]))

theorem rationalOrder_row : Rows.RationalOrderSaid :=
  OpenClaim.holds_of_wide 5 Tryz.f5 rfl rfl rfl rfl rfl rfl rfl ⟨rfl, rfl, rfl, rfl, rfl⟩ rfl rfl rfl rfl rfl (by kernel_rfl) Tryz.func5 (by kernel_rfl)
    (of_decide_eq_true (by kernel_rfl)) (by unfold Func.isWrapper; first | (rw [if_pos (by decide +kernel)]; kernel_rfl) | (rw [if_neg (by decide +kernel)]; exact ⟨rfl, rfl⟩))
    (fun os started H enc _ => rationalOrder_lifted os started H enc)

set_option maxRecDepth 100000 in
/-- The tied card. -/
theorem rationalOrder_holds : Rows.RationalOrderCardSaid :=
  Claim7.holds_tied_plain_at .later [] [.data, .data, .data] true Rows.rationalOrderCard.stood.harness false
    rationalOrder_row (fun _ h => by cases h) (by kernel_rfl) (fun _ h => by cases h) rationalOrder_row_tie rfl ⟨rfl, rfl⟩ (by kernel_rfl) rfl
    (fun f fn hf hfn => by
      obtain rfl : f = 5 := Option.some.inj ((show Tryz.prog.funcNamed "algorist/algoristlaw02.RationalOrder" = some 5 by kernel_rfl).symm.trans hf) |>.symm
      obtain rfl : fn = Tryz.f5 := (Option.some.inj (Tryz.func5.symm.trans hfn)).symm
      refine ⟨by kernel_rfl, fun j t ht => ?_⟩
      rw [Tryz.params5] at ht
      have h3 : t = 26 := by
        rcases j with _ | _ | _ | j
        · simpa using ht.symm
        · simpa using ht.symm
        · simpa using ht.symm
        · simp at ht
      subst h3
      exact (show Tryz.prog.wantsStandIn 26 = false by kernel_rfl))
    (by kernel_rfl)
#print axioms rationalOrder_holds
end Go.Proofs.YtcgdkfadcglekaaGreatDoor
