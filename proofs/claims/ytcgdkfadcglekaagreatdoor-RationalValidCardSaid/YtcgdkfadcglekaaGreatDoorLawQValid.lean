/-
  The statement RationalValid: for every argument made of descriptions of fractions the law answers true, and the descriptions read behind the call as they read before. The listed package variables hold what the program's text lays (the card ties them).
-/
import Derived.Test.YtcgdkfadcglekaaGreatDoorQe
import Derived.Test.YtcgdkfadcglekaaGreatDoorQL
import Derived.Test.YtcgdkfadcglekaaGreatDoorQ16
import Derived.Test.YtcgdkfadcglekaaGreatDoorReadV
import Derived.Test.YtcgdkfadcglekaaGreatDoorTie
import Derived.Test.YtcgdkfadcglekaaGreatDoorCards
import Derived.SevenTiedAt
namespace Go.Proofs.YtcgdkfadcglekaaGreatDoor
open Go Go.RowKit

section
variable {ops : Array Oper} {Q : Exit → Act → World → Prop} {ds : List (Option Tmp)} {a0 : Act} {w0 : World} {L : List (Value → World → Prop)} {boxes : List Nat} {i : Nat} {o : Oper}
theorem ldWR {W : World} {B : List Fld} (S : Sto W w0 B) (j g q : Nat) {s : Bool} {xs : List Nat} {x : Operand} (hx : Od ops ds a0 w0 L i x (IsV (.pointer (some ⟨g, 2 * q + 1, none⟩)))) (h1 : B[j]? = some ((g, q), IsR s xs) := by rfl) (ho : o.op = .load 22 x := by rfl) (hi : L.getD i (fun _ _ => True) = IsW xs := by kernel_rfl) (hb : boxes.contains i = false := by kernel_rfl) : Ok Tryz.prog ops Q ds a0 w0 L boxes i o :=
  Ok.of hb fun v a w hE hd hf => by
    have h : a.eval x = _ := hx.out v a w hE hd hf
    obtain ⟨s', a', n, c, b, h'⟩ := (S.mono hE).at j g q _ h1
    obtain ⟨_, _, _, e, h2⟩ := h'
    simp only [Value.agg.injEq, Array.mk.injEq, List.cons.injEq, Value.bool.injEq, Value.slice.injEq, and_true] at e
    obtain ⟨rfl, rfl, rfl, rfl⟩ := e
    have hc := b.c1
    exact ⟨.slice a' n c, ld_run ho h (by go_simp), by rw [hi]; exact ⟨_, _, _, rfl, h2⟩⟩
end
theorem validQ_two (q : Rat) : validQ (q.num + q.num) ((q.den : Int) + (q.den : Int)) = false := by
  unfold validQ
  have h : (Int.gcd (q.num + q.num) ((q.den : Int) + (q.den : Int)) == 1) = false := by
    rw [beq_eq_false_iff_ne]
    intro h
    have h2 : (2 : Int) ∣ ((Int.gcd (q.num + q.num) ((q.den : Int) + (q.den : Int)) : Nat) : Int) := Int.dvd_coe_gcd ⟨q.num, by omega⟩ ⟨q.den, by omega⟩
    rw [h] at h2
    omega
  rw [h, Bool.and_false]
theorem validQ_neg (q : Rat) : validQ (-q.num) (-(q.den : Int)) = false := by
  unfold validQ
  rw [decide_eq_false (by omega), Bool.false_and]
set_option maxRecDepth 100000 in
set_option maxHeartbeats 8000000 in
theorem QValid_l (w : World) (s1x s1y s2x s2y s3x s3y : Bool) (a1x a1y a2x a2y a3x a3y : Option Addr) (n1x c1x n1y c1y n2x c2x n2y c2y n3x c3x n3y c3y : Nat) (x1n x1d x2n x2d x3n x3d : List Nat) (h1x : Wd w a1x n1x c1x x1n) (h1y : Wd w a1y n1y c1y x1d) (h2x : Wd w a2x n2x c2x x2n) (h2y : Wd w a2y n2y c2y x2d) (h3x : Wd w a3x n3x c3x x3n) (h3y : Wd w a3y n3y c3y x3d) (ht : Tab w) (sm : Int) (HSM : Hid (IntKind.i64.wrap ((x3n.length : Int) + (x3d.length : Int)) = sm)) (HSM1 : Hid (decide (40 < sm) = true)) :
    Calls Tryz.prog 6 #[.agg #[.bool s1x, .slice a1x n1x c1x, .bool s1y, .slice a1y n1y c1y], .agg #[.bool s2x, .slice a2x n2x c2x, .bool s2y, .slice a2y n2y c2y], .agg #[.bool s3x, .slice a3x n3x c3x, .bool s3y, .slice a3y n3y c3y]] w (Ret w (IsV (.bool true))) := by
  obtain ⟨W, hW, S⟩ : ∃ W, W = ((w.alloc (.cells #[.bool s1x, .slice a1x n1x c1x, .bool s1y, .slice a1y n1y c1y] 26)).alloc (.cells #[.bool s2x, .slice a2x n2x c2x, .bool s2y, .slice a2y n2y c2y] 26)).alloc (.cells #[.bool s3x, .slice a3x n3x c3x, .bool s3y, .slice a3y n3y c3y] 31) ∧ Sto w W [((w.heap.size + 1 + 1, 1), IsR s3y x3d), ((w.heap.size + 1 + 1, 0), IsR s3x x3n), ((w.heap.size + 1, 1), IsR s2y x2d), ((w.heap.size + 1, 0), IsR s2x x2n), ((w.heap.size, 1), IsR s1y x1d), ((w.heap.size, 0), IsR s1x x1n)] := ⟨_, rfl, ((((Sto.start w).new2 (w.heap.size) (by simp) s1x s1y a1x a1y n1x c1x n1y c1y 26 (IsR s1x x1n) (IsR s1y x1d) (IsR.gstb _ _) (⟨_, _, _, rfl, h1x⟩) (IsR.gstb _ _) (⟨_, _, _, rfl, h1y⟩)).new2 (w.heap.size + 1) (by simp) s2x s2y a2x a2y n2x c2x n2y c2y 26 (IsR s2x x2n) (IsR s2y x2d) (IsR.gstb _ _) (⟨_, _, _, rfl, (h2x.ext ((Ext.refl _).alloc _))⟩) (IsR.gstb _ _) (⟨_, _, _, rfl, (h2y.ext ((Ext.refl _).alloc _))⟩)).new2 (w.heap.size + 1 + 1) (by simp) s3x s3y a3x a3y n3x c3x n3y c3y 31 (IsR s3x x3n) (IsR s3y x3d) (IsR.gstb _ _) (⟨_, _, _, rfl, ((h3x.ext ((Ext.refl _).alloc _)).ext ((Ext.refl _).alloc _))⟩) (IsR.gstb _ _) (⟨_, _, _, rfl, ((h3y.ext ((Ext.refl _).alloc _)).ext ((Ext.refl _).alloc _))⟩))⟩
  clear h1x h1y h2x h2y h3x h3y
  go_enter Tryz.func6, Tryz.ntmps6
  go_upto_region 1 with (fail)
  rw [← hW]
  clear hW
  refine rgs 2 [some 14, some 7] [IsV (.bool true), IsV (.bool true)] [] ?_ ?_
  · refine Rc (cl0 (en Tryz.func12)  (fun w' hE => examplesQ_f _ (ht.ext (S.ext.trans hE)))) ?_
    refine Rc (mv (Od.lc 0 14)) ?_
    exact RgAll.nil
  intro v W1 e1 hΦ _
  replace S := S.mono e1
  have v1 : v 1 = .bool true := hΦ 1 (by decide)
  simp only [layL, Act.put, List.setIfInBounds_toArray, List.set_cons_zero, List.set_cons_succ, Nat.reduceAdd]
  rw [v1]
  clear v1 hΦ e1
  refine wpList_nil ?_
  go_upto_region 2 with (fail)
  refine rgs 2 [some 15, some 16] [IsV (.bool true), IsV (.bool false)] [] ?_ ?_
  · refine Rc (mv (Od.lit 7)) ?_
    refine Rc (nt (Od.loc 0 15)) ?_
    exact RgAll.nil
  intro v W2 e1 hΦ _
  replace S := S.mono e1
  have v1 : v 1 = .bool false := hΦ 1 (by decide)
  simp only [layL, Act.put, List.setIfInBounds_toArray, List.set_cons_zero, List.set_cons_succ, Nat.reduceAdd]
  rw [v1]
  clear v1 hΦ e1
  refine wpList_nil ?_
  go_upto_region 4 with (fail)
  refine rgs 10 [some 17, some 18, some 19, some 20, some 21, some 22, some 23, some 24, some 25, some 26] [IsV (.pointer (some ⟨w.heap.size + 1 + 1, 0, none⟩)), IsV (.pointer (some ⟨w.heap.size + 1 + 1, 1, none⟩)), IsW x3n, IsV (.int .i64 (x3n).length), IsV (.pointer (some ⟨w.heap.size + 1 + 1, 2, none⟩)), IsV (.pointer (some ⟨w.heap.size + 1 + 1, 3, none⟩)), IsW x3d, IsV (.int .i64 (x3d).length), IsV (.int .i64 sm), IsV (.bool true)] [] ?_ ?_ (hst := by repeat' (first | exact trivial | exact IsW.stb _ | exact IsV.stb _ | exact IsI.stb _ _ | exact IsBo.stb _ _ | apply IsJ.stb | apply IsQ.stb | apply And.intro))
  · refine Rc (fa (fa_Rat0 (w.heap.size + 1 + 1) 0) (Od.lit 5)) ?_
    refine RgAll.cons (by { (with_reducible refine RgL.mk (by rfl) ?_); intro v a w' hE hd hf; have d0 : v 0 = .pointer (some ⟨w.heap.size + 1 + 1, 0, none⟩) := hd 0 (by kernel_rfl); have ev0 := hf.val 0 17 _ d0 (by kernel_rfl) (by kernel_rfl) (by kernel_rfl); clear d0; clear hd hf; intro K hK; go_simp; exact hK.out _ _ (Ext.refl _) rfl (FreshIf.no rfl) }) ?_
    refine Rc (ldWR S 1 (w.heap.size + 1 + 1) 0 (Od.lc 1 18)) ?_
    refine RgAll.cons (by { (with_reducible refine RgL.mk (by rfl) ?_); intro v a w' hE hd hf; have d0 : (IsW x3n) (v 2) w' := hd 2 (by kernel_rfl); obtain ⟨a9, n9, c9, z0, h9⟩ := d0; have ev0 := hf.val 2 19 _ z0 (by kernel_rfl) (by kernel_rfl) (by kernel_rfl); clear z0; have l9 := h9.len; subst l9; have t9 := h9.capo; have t8 := h9.big; clear h9; clear hd hf; intro K hK; go_simp; exact hK.out _ _ (Ext.refl _) rfl (FreshIf.no rfl) }) ?_
    refine Rc (fa (fa_Rat1 (w.heap.size + 1 + 1) 0) (Od.lit 5)) ?_
    refine RgAll.cons (by { (with_reducible refine RgL.mk (by rfl) ?_); intro v a w' hE hd hf; have d0 : v 4 = .pointer (some ⟨w.heap.size + 1 + 1, 2, none⟩) := hd 4 (by kernel_rfl); have ev0 := hf.val 4 21 _ d0 (by kernel_rfl) (by kernel_rfl) (by kernel_rfl); clear d0; clear hd hf; intro K hK; go_simp; exact hK.out _ _ (Ext.refl _) rfl (FreshIf.no rfl) }) ?_
    refine Rc (ldWR S 0 (w.heap.size + 1 + 1) 1 (Od.lc 5 22)) ?_
    refine RgAll.cons (by { (with_reducible refine RgL.mk (by rfl) ?_); intro v a w' hE hd hf; have d0 : (IsW x3d) (v 6) w' := hd 6 (by kernel_rfl); obtain ⟨a9, n9, c9, z0, h9⟩ := d0; have ev0 := hf.val 6 23 _ z0 (by kernel_rfl) (by kernel_rfl) (by kernel_rfl); clear z0; have l9 := h9.len; subst l9; have t9 := h9.capo; have t8 := h9.big; clear h9; clear hd hf; intro K hK; go_simp; exact hK.out _ _ (Ext.refl _) rfl (FreshIf.no rfl) }) ?_
    refine Rc (bn (r := .int .i64 sm) (Od.loc 3 20) (Od.loc 7 24) (hr := fun w => by have hx9 := HSM.out; go_simp)) ?_
    refine Rc (bn (r := .bool true) (Od.loc 8 25) Od.con (hr := fun w => by have hx9 := HSM1.out; go_simp)) ?_
    exact RgAll.nil
  intro v W3 e1 hΦ _
  replace S := S.mono e1
  have v9 : v 9 = .bool true := hΦ 9 (by decide)
  simp only [layL, Act.put, List.setIfInBounds_toArray, List.set_cons_zero, List.set_cons_succ, Nat.reduceAdd]
  rw [v9]
  clear v9 hΦ e1
  refine wpList_nil ?_
  go_upto_region 5 with (fail)
  refine rgs 2 [some 27, some 6] [IsV (.bool true), IsV (.bool true)] [] ?_ ?_
  · refine Rc (mv (Od.lit 7)) ?_
    refine Rc (mv (Od.lc 0 27)) ?_
    exact RgAll.nil
  intro v W4 e1 hΦ _
  replace S := S.mono e1
  have v1 : v 1 = .bool true := hΦ 1 (by decide)
  simp only [layL, Act.put, List.setIfInBounds_toArray, List.set_cons_zero, List.set_cons_succ, Nat.reduceAdd]
  rw [v1]
  clear v1 hΦ e1
  refine wpList_nil ?_
  go_wp2_with fail
  exact bodyPost_ret (v := .bool true) (by simp [results, Tryz.results6, go_sem]) rfl (⟨_, rfl, S.ext, rfl⟩)
set_option maxRecDepth 100000 in
set_option maxHeartbeats 8000000 in
theorem QValid_s (w : World) (s1x s1y s2x s2y s3x s3y : Bool) (a1x a1y a2x a2y a3x a3y : Option Addr) (n1x c1x n1y c1y n2x c2x n2y c2y n3x c3x n3y c3y : Nat) (x1n x1d x2n x2d x3n x3d : List Nat) (h1x : Wd w a1x n1x c1x x1n) (h1y : Wd w a1y n1y c1y x1d) (h2x : Wd w a2x n2x c2x x2n) (h2y : Wd w a2y n2y c2y x2d) (h3x : Wd w a3x n3x c3x x3n) (h3y : Wd w a3y n3y c3y x3d) (ht : Tab w) (sm : Int) (qa qb : Rat) (vb : Bool) (HSM : Hid (IntKind.i64.wrap ((x3n.length : Int) + (x3d.length : Int)) = sm)) (HSM1 : Hid (decide (40 < sm) = false)) (Ha : Hid (madeQ s1x s1y x1n x1d 6 = qa)) (Hb : Hid (madeQ s2x s2y x2n x2d 6 = qb))
    (HLN : Hid (x3n.length ≤ 40 ∧ x3d.length ≤ 40)) (HVB : Hid ((validb s3x x3n && validb s3y x3d && validQ (valZ s3x x3n) (valZ s3y x3d)) = vb)) (HTW : Hid (validQ (qa.num + qa.num) ((qa.den : Int) + (qa.den : Int)) = false)) (HTU : Hid (validQ (-qa.num) (-(qa.den : Int)) = false)) :
    Calls Tryz.prog 6 #[.agg #[.bool s1x, .slice a1x n1x c1x, .bool s1y, .slice a1y n1y c1y], .agg #[.bool s2x, .slice a2x n2x c2x, .bool s2y, .slice a2y n2y c2y], .agg #[.bool s3x, .slice a3x n3x c3x, .bool s3y, .slice a3y n3y c3y]] w (Ret w (IsV (.bool true))) := by
  obtain ⟨W, hW, S⟩ : ∃ W, W = ((w.alloc (.cells #[.bool s1x, .slice a1x n1x c1x, .bool s1y, .slice a1y n1y c1y] 26)).alloc (.cells #[.bool s2x, .slice a2x n2x c2x, .bool s2y, .slice a2y n2y c2y] 26)).alloc (.cells #[.bool s3x, .slice a3x n3x c3x, .bool s3y, .slice a3y n3y c3y] 31) ∧ Sto w W [((w.heap.size + 1 + 1, 1), IsR s3y x3d), ((w.heap.size + 1 + 1, 0), IsR s3x x3n), ((w.heap.size + 1, 1), IsR s2y x2d), ((w.heap.size + 1, 0), IsR s2x x2n), ((w.heap.size, 1), IsR s1y x1d), ((w.heap.size, 0), IsR s1x x1n)] := ⟨_, rfl, ((((Sto.start w).new2 (w.heap.size) (by simp) s1x s1y a1x a1y n1x c1x n1y c1y 26 (IsR s1x x1n) (IsR s1y x1d) (IsR.gstb _ _) (⟨_, _, _, rfl, h1x⟩) (IsR.gstb _ _) (⟨_, _, _, rfl, h1y⟩)).new2 (w.heap.size + 1) (by simp) s2x s2y a2x a2y n2x c2x n2y c2y 26 (IsR s2x x2n) (IsR s2y x2d) (IsR.gstb _ _) (⟨_, _, _, rfl, (h2x.ext ((Ext.refl _).alloc _))⟩) (IsR.gstb _ _) (⟨_, _, _, rfl, (h2y.ext ((Ext.refl _).alloc _))⟩)).new2 (w.heap.size + 1 + 1) (by simp) s3x s3y a3x a3y n3x c3x n3y c3y 31 (IsR s3x x3n) (IsR s3y x3d) (IsR.gstb _ _) (⟨_, _, _, rfl, ((h3x.ext ((Ext.refl _).alloc _)).ext ((Ext.refl _).alloc _))⟩) (IsR.gstb _ _) (⟨_, _, _, rfl, ((h3y.ext ((Ext.refl _).alloc _)).ext ((Ext.refl _).alloc _))⟩))⟩
  clear h1x h1y h2x h2y h3x h3y
  go_enter Tryz.func6, Tryz.ntmps6
  go_upto_region 1 with (fail)
  rw [← hW]
  clear hW
  refine rgs 2 [some 14, some 7] [IsV (.bool true), IsV (.bool true)] [] ?_ ?_
  · refine Rc (cl0 (en Tryz.func12)  (fun w' hE => examplesQ_f _ (ht.ext (S.ext.trans hE)))) ?_
    refine Rc (mv (Od.lc 0 14)) ?_
    exact RgAll.nil
  intro v W1 e1 hΦ _
  replace S := S.mono e1
  have v1 : v 1 = .bool true := hΦ 1 (by decide)
  simp only [layL, Act.put, List.setIfInBounds_toArray, List.set_cons_zero, List.set_cons_succ, Nat.reduceAdd]
  rw [v1]
  clear v1 hΦ e1
  refine wpList_nil ?_
  go_upto_region 2 with (fail)
  refine rgs 2 [some 15, some 16] [IsV (.bool true), IsV (.bool false)] [] ?_ ?_
  · refine Rc (mv (Od.lit 7)) ?_
    refine Rc (nt (Od.loc 0 15)) ?_
    exact RgAll.nil
  intro v W2 e1 hΦ _
  replace S := S.mono e1
  have v1 : v 1 = .bool false := hΦ 1 (by decide)
  simp only [layL, Act.put, List.setIfInBounds_toArray, List.set_cons_zero, List.set_cons_succ, Nat.reduceAdd]
  rw [v1]
  clear v1 hΦ e1
  refine wpList_nil ?_
  go_upto_region 4 with (fail)
  refine rgs 10 [some 17, some 18, some 19, some 20, some 21, some 22, some 23, some 24, some 25, some 26] [IsV (.pointer (some ⟨w.heap.size + 1 + 1, 0, none⟩)), IsV (.pointer (some ⟨w.heap.size + 1 + 1, 1, none⟩)), IsW x3n, IsV (.int .i64 (x3n).length), IsV (.pointer (some ⟨w.heap.size + 1 + 1, 2, none⟩)), IsV (.pointer (some ⟨w.heap.size + 1 + 1, 3, none⟩)), IsW x3d, IsV (.int .i64 (x3d).length), IsV (.int .i64 sm), IsV (.bool false)] [] ?_ ?_ (hst := by repeat' (first | exact trivial | exact IsW.stb _ | exact IsV.stb _ | exact IsI.stb _ _ | exact IsBo.stb _ _ | apply IsJ.stb | apply IsQ.stb | apply And.intro))
  · refine Rc (fa (fa_Rat0 (w.heap.size + 1 + 1) 0) (Od.lit 5)) ?_
    refine RgAll.cons (by { (with_reducible refine RgL.mk (by rfl) ?_); intro v a w' hE hd hf; have d0 : v 0 = .pointer (some ⟨w.heap.size + 1 + 1, 0, none⟩) := hd 0 (by kernel_rfl); have ev0 := hf.val 0 17 _ d0 (by kernel_rfl) (by kernel_rfl) (by kernel_rfl); clear d0; clear hd hf; intro K hK; go_simp; exact hK.out _ _ (Ext.refl _) rfl (FreshIf.no rfl) }) ?_
    refine Rc (ldWR S 1 (w.heap.size + 1 + 1) 0 (Od.lc 1 18)) ?_
    refine RgAll.cons (by { (with_reducible refine RgL.mk (by rfl) ?_); intro v a w' hE hd hf; have d0 : (IsW x3n) (v 2) w' := hd 2 (by kernel_rfl); obtain ⟨a9, n9, c9, z0, h9⟩ := d0; have ev0 := hf.val 2 19 _ z0 (by kernel_rfl) (by kernel_rfl) (by kernel_rfl); clear z0; have l9 := h9.len; subst l9; have t9 := h9.capo; have t8 := h9.big; clear h9; clear hd hf; intro K hK; go_simp; exact hK.out _ _ (Ext.refl _) rfl (FreshIf.no rfl) }) ?_
    refine Rc (fa (fa_Rat1 (w.heap.size + 1 + 1) 0) (Od.lit 5)) ?_
    refine RgAll.cons (by { (with_reducible refine RgL.mk (by rfl) ?_); intro v a w' hE hd hf; have d0 : v 4 = .pointer (some ⟨w.heap.size + 1 + 1, 2, none⟩) := hd 4 (by kernel_rfl); have ev0 := hf.val 4 21 _ d0 (by kernel_rfl) (by kernel_rfl) (by kernel_rfl); clear d0; clear hd hf; intro K hK; go_simp; exact hK.out _ _ (Ext.refl _) rfl (FreshIf.no rfl) }) ?_
    refine Rc (ldWR S 0 (w.heap.size + 1 + 1) 1 (Od.lc 5 22)) ?_
    refine RgAll.cons (by { (with_reducible refine RgL.mk (by rfl) ?_); intro v a w' hE hd hf; have d0 : (IsW x3d) (v 6) w' := hd 6 (by kernel_rfl); obtain ⟨a9, n9, c9, z0, h9⟩ := d0; have ev0 := hf.val 6 23 _ z0 (by kernel_rfl) (by kernel_rfl) (by kernel_rfl); clear z0; have l9 := h9.len; subst l9; have t9 := h9.capo; have t8 := h9.big; clear h9; clear hd hf; intro K hK; go_simp; exact hK.out _ _ (Ext.refl _) rfl (FreshIf.no rfl) }) ?_
    refine Rc (bn (r := .int .i64 sm) (Od.loc 3 20) (Od.loc 7 24) (hr := fun w => by have hx9 := HSM.out; go_simp)) ?_
    refine Rc (bn (r := .bool false) (Od.loc 8 25) Od.con (hr := fun w => by have hx9 := HSM1.out; go_simp)) ?_
    exact RgAll.nil
  intro v W3 e1 hΦ _
  replace S := S.mono e1
  have v9 : v 9 = .bool false := hΦ 9 (by decide)
  simp only [layL, Act.put, List.setIfInBounds_toArray, List.set_cons_zero, List.set_cons_succ, Nat.reduceAdd]
  rw [v9]
  clear v9 hΦ e1
  refine wpList_nil ?_
  go_upto_region 6 with (fail)
  have hl := hid S.lt; have hw := S.ext.size
  refine rgn 8 [some 28, some 29, some 30, some 31, some 8, some 9, none, none] [IsQ (IsR s1x x1n) (IsR s1y x1d), IsQ (IsI 8 qa.num) (IsI 8 ((qa.den : Int))), IsQ (IsR s2x x2n) (IsR s2y x2d), IsQ (IsI 8 qb.num) (IsI 8 ((qb.den : Int))), IsNw W3 2, IsNw W3 2, TT, TT] [4, 5] [none, none, none, none, none, none, some (4, [IsI 8 qa.num, IsI 8 ((qa.den : Int))]), some (5, [IsI 8 qb.num, IsI 8 ((qb.den : Int))])] [none, none, none, none, none, none, some 4, some 5] 0 ?_ ?_
  · refine RcK (ldQ S 5 4 (w.heap.size) 0 (Od.lit 3) ld_RawQ rfl rfl) ?_
    refine RcK (cl2 (en Tryz.func13) (Od.lc (Φ := IsQ (IsR s1x x1n) (IsR s1y x1d)) 0 28) Od.con (fun x0 x1 w' hE d0 d1 => by { obtain rfl : x1 = .int .i64 6 := d1; exact Calls.mono (rqMade_f d0 6 (by decide)) fun _ _ h => h.ratz Ha.out (Nat.le_refl _) })) ?_
    refine RcK (ldQ S 3 2 (w.heap.size + 1) 0 (Od.lit 4) ld_RawQ rfl rfl) ?_
    refine RcK (cl2 (en Tryz.func13) (Od.lc (Φ := IsQ (IsR s2x x2n) (IsR s2y x2d)) 2 30) Od.con (fun x0 x1 w' hE d0 d1 => by { obtain rfl : x1 = .int .i64 6 := d1; exact Calls.mono (rqMade_f d0 6 (by decide)) fun _ _ h => h.ratz Hb.out (Nat.le_refl _) })) ?_
    refine RcK (alN al_Rat) ?_
    refine RcK (alN al_Rat) ?_
    refine RcS 4 (sQ st_Rat (Od.lc (Φ := IsQ (IsI 8 qa.num) (IsI 8 ((qa.den : Int)))) 1 29) (IsI.gstb _ _) (IsI.gstb _ _)) ?_
    refine RcS 5 (sQ st_Rat (Od.lc (Φ := IsQ (IsI 8 qb.num) (IsI 8 ((qb.den : Int)))) 3 31) (IsI.gstb _ _) (IsI.gstb _ _)) ?_
    exact RgAllN.nil
  intro v W4 e1 hΦ hS hne
  replace S := S.mono e1
  obtain ⟨g8, v4, q1, S2⟩ := S.addQ (hΦ 4 (by decide) rfl) (hS 6 (by decide) _ _ rfl) hw (IsI.gstb _ _) (IsI.gstb _ _)
  replace S := S2 (ApartO.old hl.out q1); clear S2
  obtain ⟨g9, v5, q2, S2⟩ := S.addQ (hΦ 5 (by decide) rfl) (hS 7 (by decide) _ _ rfl) hw (IsI.gstb _ _) (IsI.gstb _ _)
  replace S := S2 (ApartO.cons (fun h => hne 4 5 (by decide) (by decide) (by decide) (by decide) (by decide) rfl rfl (by rw [v4, v5, h])) (ApartO.cons (fun h => hne 4 5 (by decide) (by decide) (by decide) (by decide) (by decide) rfl rfl (by rw [v4, v5, h])) (ApartO.old hl.out q2))); clear S2
  simp only [layL, Act.put, List.setIfInBounds_toArray, List.set_cons_zero, List.set_cons_succ, Nat.reduceAdd]
  rw [v4, v5]
  clear hl hw hne v4 v5 hΦ hS e1
  refine wpAny_done (by kernel_rfl) ?_ _
  go_upto_region 7 with (fail)
  refine rg 12 [some 32, some 33, some 34, some 35, some 36, some 37, some 38, some 39, some 40, some 41, some 42, some 10] [IsQ (IsI 8 qa.num) (IsI 8 ((qa.den : Int))), IsQ (IsI 8 qa.num) (IsI 8 ((qa.den : Int))), IsQ (IsI 8 qb.num) (IsI 8 ((qb.den : Int))), IsQ (IsI 17 ((qa + qb).num)) (IsI 17 (((qa + qb).den : Int))), IsQ (IsI 8 qa.num) (IsI 8 ((qa.den : Int))), IsQ (IsI 8 qb.num) (IsI 8 ((qb.den : Int))), IsQ (IsI 17 ((qa - qb).num)) (IsI 17 (((qa - qb).den : Int))), IsQ (IsI 8 qa.num) (IsI 8 ((qa.den : Int))), IsQ (IsI 8 qb.num) (IsI 8 ((qb.den : Int))), IsQ (IsI 16 ((qa * qb).num)) (IsI 16 (((qa * qb).den : Int))), IsL 17 [qa, qa + qb, qa - qb, qa * qb], IsL 17 [qa, qa + qb, qa - qb, qa * qb]] [] 0 ?_ ?_ (hst := by repeat' (first | exact trivial | exact IsL.stb _ _ | exact IsV.stb _ | exact IsI.stb _ _ | exact IsBo.stb _ _ | apply IsJ.stb | apply IsQ.stb | apply And.intro))
  · refine Rc (ldQ S 3 2 (g8) 0 (Od.lit 8) ld_Rat rfl rfl) ?_
    refine Rc (ldQ S 3 2 (g8) 0 (Od.lit 8) ld_Rat rfl rfl) ?_
    refine Rc (ldQ S 1 0 (g9) 0 (Od.lit 9) ld_Rat rfl rfl) ?_
    refine Rc (cl2 (en Tryz.func37) (Od.lc (Φ := IsQ (IsI 8 qa.num) (IsI 8 ((qa.den : Int)))) 1 33) (Od.lc (Φ := IsQ (IsI 8 qb.num) (IsI 8 ((qb.den : Int)))) 2 34) (fun x0 x1 w' hE d0 d1 => qAdd_f d0 d1 (by decide) (by decide))) ?_
    refine Rc (ldQ S 3 2 (g8) 0 (Od.lit 8) ld_Rat rfl rfl) ?_
    refine Rc (ldQ S 1 0 (g9) 0 (Od.lit 9) ld_Rat rfl rfl) ?_
    refine Rc (cl2 (en Tryz.func36) (Od.lc (Φ := IsQ (IsI 8 qa.num) (IsI 8 ((qa.den : Int)))) 4 36) (Od.lc (Φ := IsQ (IsI 8 qb.num) (IsI 8 ((qb.den : Int)))) 5 37) (fun x0 x1 w' hE d0 d1 => qSub_f d0 d1 (by decide) (by decide))) ?_
    refine Rc (ldQ S 3 2 (g8) 0 (Od.lit 8) ld_Rat rfl rfl) ?_
    refine Rc (ldQ S 1 0 (g9) 0 (Od.lit 9) ld_Rat rfl rfl) ?_
    refine Rc (cl2 (en Tryz.func38) (Od.lc (Φ := IsQ (IsI 8 qa.num) (IsI 8 ((qa.den : Int)))) 7 39) (Od.lc (Φ := IsQ (IsI 8 qb.num) (IsI 8 ((qb.den : Int)))) 8 40) (fun x0 x1 w' hE d0 d1 => qMul_f d0 d1 (by decide) (by decide))) ?_
    refine Rc (bS4 (K := 17) (Od.loc 0 32) (Od.loc 3 35) (Od.loc 6 38) (Od.loc 9 41) (by first | decide | omega) (by first | decide | omega) (by first | decide | omega) (by first | decide | omega)) ?_
    refine Rc (mv (Od.lc 10 42)) ?_
    exact RgAll.nil
  intro v W5 e1 hΦ _
  replace S := S.mono e1
  obtain ⟨u10, hu10, k10⟩ : ∃ vv_, v 11 = vv_ ∧ (IsL 17 [qa, qa + qb, qa - qb, qa * qb]) vv_ W5 := ⟨_, rfl, hΦ 11 (by decide)⟩
  simp only [layL, Act.put, List.setIfInBounds_toArray, List.set_cons_zero, List.set_cons_succ, Nat.reduceAdd]
  rw [hu10]
  clear hu10 hΦ e1
  refine wpAny_done (by kernel_rfl) ?_ _
  go_upto_region 8 with (fail)
  refine rgs 1 [some 11] [IsV (.int .i64 0)] [] ?_ ?_
  · refine Rc (mv Od.con) ?_
    exact RgAll.nil
  intro v W6 e1 hΦ _
  replace S := S.mono e1
  replace k10 := (IsL.stb _ _) _ _ _ e1 k10
  have v0 : v 0 = .int .i64 0 := hΦ 0 (by decide)
  simp only [layL, Act.put, List.setIfInBounds_toArray, List.set_cons_zero, List.set_cons_succ]
  rw [v0]
  clear v0 hΦ e1
  refine wpList_nil ?_
  obtain ⟨gl, hgl, hel⟩ : ∃ gl, u10 = .slice (some ⟨gl, 0, none⟩) 4 4 ∧ ∀ j q, [qa, qa + qb, qa - qb, qa * qb][j]? = some q → (∃ s a n c, Bo W6 gl (2 * j) s a n c ∧ IsI 17 q.num (.agg #[.bool s, .slice a n c]) W6) ∧ ∃ s a n c, Bo W6 gl (2 * j + 1) s a n c ∧ IsI 17 (q.den : Int) (.agg #[.bool s, .slice a n c]) W6 := let ⟨gl, h1, _, h3⟩ := k10; ⟨gl, h1, h3⟩
  subst hgl; clear k10
  have HL := hid (show ∀ (j : Nat) (q : Rat), [qa, qa + qb, qa - qb, qa * qb][j]? = some q → ∀ w2, Ext W6 w2 → (∃ s a n c, Bo w2 gl (2 * j) s a n c ∧ IsI 17 q.num (.agg #[.bool s, .slice a n c]) w2) ∧ ∃ s a n c, Bo w2 gl (2 * j + 1) s a n c ∧ IsI 17 (q.den : Int) (.agg #[.bool s, .slice a n c]) w2 from
    fun j q hq w2 e => let ⟨⟨s, a, n, c, b, k⟩, s', a', n', c', b', k'⟩ := hel j q hq; ⟨⟨s, a, n, c, b.ext e, k.ext e⟩, s', a', n', c', b'.ext e, k'.ext e⟩)
  clear hel
  go_wp2_with fail
  have S0 := hid S; clear S
  go_loopg [11] 4 (fun gk v11 wr => ∃ i : Nat, v11 = .int .i64 ((i : Nat) : Int) ∧ i + gk = 4 ∧ Ext W6 wr ∧ Hid (Sto w wr [((g9, 1), IsI 8 ((qb.den : Int))), ((g9, 0), IsI 8 qb.num), ((g8, 1), IsI 8 ((qa.den : Int))), ((g8, 0), IsI 8 qa.num), ((w.heap.size + 1 + 1, 1), IsR s3y x3d), ((w.heap.size + 1 + 1, 0), IsR s3x x3n), ((w.heap.size + 1, 1), IsR s2y x2d), ((w.heap.size + 1, 0), IsR s2x x2n), ((w.heap.size, 1), IsR s1y x1d), ((w.heap.size, 0), IsR s1x x1n)]))
  case atStart => exact ⟨0, rfl, by omega, Ext.refl _, S0⟩
  case round =>
    clear S0
    obtain ⟨i, rfl, hn, hx0, S⟩ := hrel
    have S := S.out
    rcases Nat.eq_zero_or_pos gk with hg | hg
    · skip
      have HLT := hid (show (4 : Int) ≤ (i : Int) by omega)
      clear hn hg hx0 HL
      go_upto_region 9 with (fail)
      refine rgs 4 [some 43, some 44, some 45, some 46] [IsV (.int .i64 ((i : Nat) : Int)), IsV (.slice (some ⟨gl, 0, none⟩) 4 4), IsV (.int .i64 4), IsV (.bool false)] [] ?_ ?_
      · refine Rc (mv (Od.lit 11)) ?_
        refine Rc (mv (Od.lit 10)) ?_
        refine RgAll.cons (by { (with_reducible refine RgL.mk (by rfl) ?_); intro v a w' hE hd hf; have d0 : v 1 = .slice (some ⟨gl, 0, none⟩) 4 4 := hd 1 (by kernel_rfl); have ev0 := hf.val 1 44 _ d0 (by kernel_rfl) (by kernel_rfl) (by kernel_rfl); clear d0; clear hd hf; intro K hK; go_simp; exact hK.out _ _ (Ext.refl _) rfl (FreshIf.no rfl) }) ?_
        refine Rc (bn (r := .bool false) (Od.loc 0 43) (Od.loc 2 45) (hr := fun w => by have hx9 := HLT.out; go_simp)) ?_
        exact RgAll.nil
      intro v W7 e1 hΦ _
      replace S := S.mono e1
      have v3 : v 3 = .bool false := hΦ 3 (by decide)
      simp only [layL, Act.put, List.setIfInBounds_toArray, List.set_cons_zero, List.set_cons_succ, Nat.reduceAdd]
      rw [v3]
      clear v3 hΦ e1
      refine wpList_nil ?_
      go_upto_region 13 with (fail)
      have hl := hid S.lt; have hw := S.ext.size
      refine rgn 13 [some 63, some 64, some 65, some 66, some 67, some 68, some 69, some 70, some 71, some 72, some 73, some 12, none] [IsV (.pointer (some ⟨g8, 0, none⟩)), IsI 8 qa.num, IsV (.pointer (some ⟨g8, 0, none⟩)), IsI 8 qa.num, IsI 9 (qa.num + qa.num), IsV (.pointer (some ⟨g8, 2, none⟩)), IsI 8 ((qa.den : Int)), IsV (.pointer (some ⟨g8, 2, none⟩)), IsI 8 ((qa.den : Int)), IsI 9 (((qa.den : Int)) + ((qa.den : Int))), IsQ (IsI 9 (qa.num + qa.num)) (IsI 9 (((qa.den : Int)) + ((qa.den : Int)))), IsNw W7 2, TT] [11] [none, none, none, none, none, none, none, none, none, none, none, none, some (11, [IsI 9 (qa.num + qa.num), IsI 9 (((qa.den : Int)) + ((qa.den : Int)))])] [none, none, none, none, none, none, none, none, none, none, none, none, some 11] 0 ?_ ?_
      · refine RcK (fa (fa_Rat0 (g8) 0) (Od.lit 8)) ?_
        refine RcK (ldI S 3 (g8) 0 (Od.lc 0 63) ld_Int) ?_
        refine RcK (fa (fa_Rat0 (g8) 0) (Od.lit 8)) ?_
        refine RcK (ldI S 3 (g8) 0 (Od.lc 2 65) ld_Int) ?_
        refine RcK (cl2 (en Tryz.func42) (Od.lc (Φ := IsI 8 qa.num) 1 64) (Od.lc (Φ := IsI 8 qa.num) 3 66) (fun x0 x1 w' hE d0 d1 => RAdd_f d0 d1 (by decide) (by decide))) ?_
        refine RcK (fa (fa_Rat1 (g8) 0) (Od.lit 8)) ?_
        refine RcK (ldI S 2 (g8) 1 (Od.lc 5 68) ld_Int) ?_
        refine RcK (fa (fa_Rat1 (g8) 0) (Od.lit 8)) ?_
        refine RcK (ldI S 2 (g8) 1 (Od.lc 7 70) ld_Int) ?_
        refine RcK (cl2 (en Tryz.func42) (Od.lc (Φ := IsI 8 ((qa.den : Int))) 6 69) (Od.lc (Φ := IsI 8 ((qa.den : Int))) 8 71) (fun x0 x1 w' hE d0 d1 => RAdd_f d0 d1 (by decide) (by decide))) ?_
        refine RcK (bq (Od.loc 4 67) (Od.loc 9 72) bd_Rat) ?_
        refine RcK (alN al_Rat) ?_
        refine RcS 11 (sQ st_Rat (Od.lc (Φ := IsQ (IsI 9 (qa.num + qa.num)) (IsI 9 (((qa.den : Int)) + ((qa.den : Int))))) 10 73) (IsI.gstb _ _) (IsI.gstb _ _)) ?_
        exact RgAllN.nil
      intro v W8 e1 hΦ hS _
      replace S := S.mono e1
      obtain ⟨g12, v11, q3, S2⟩ := S.addQ (hΦ 11 (by decide) rfl) (hS 12 (by decide) _ _ rfl) hw (IsI.gstb _ _) (IsI.gstb _ _)
      replace S := S2 (ApartO.old hl.out q3); clear S2
      simp only [layL, Act.put, List.setIfInBounds_toArray, List.set_cons_zero, List.set_cons_succ, Nat.reduceAdd]
      rw [v11]
      clear hl hw v11 hΦ hS e1
      refine wpAny_done (by kernel_rfl) ?_ _
      go_upto_region 14 with (fail)
      have hl := hid S.lt; have hw := S.ext.size
      refine rgn 9 [some 74, some 75, some 76, some 77, some 78, some 79, some 80, some 13, none] [IsV (.pointer (some ⟨g8, 0, none⟩)), IsI 8 qa.num, IsI 8 (-qa.num), IsV (.pointer (some ⟨g8, 2, none⟩)), IsI 8 ((qa.den : Int)), IsI 8 (-((qa.den : Int))), IsQ (IsI 8 (-qa.num)) (IsI 8 (-((qa.den : Int)))), IsNw W8 2, TT] [7] [none, none, none, none, none, none, none, none, some (7, [IsI 8 (-qa.num), IsI 8 (-((qa.den : Int)))])] [none, none, none, none, none, none, none, none, some 7] 0 ?_ ?_
      · refine RcK (fa (fa_Rat0 (g8) 0) (Od.lit 8)) ?_
        refine RcK (ldI S 5 (g8) 0 (Od.lc 0 74) ld_Int) ?_
        refine RcK (cl1 (en Tryz.func43) (Od.lc (Φ := IsI 8 qa.num) 1 75) (fun x0 w' hE d0 => RNeg_f d0)) ?_
        refine RcK (fa (fa_Rat1 (g8) 0) (Od.lit 8)) ?_
        refine RcK (ldI S 4 (g8) 1 (Od.lc 3 77) ld_Int) ?_
        refine RcK (cl1 (en Tryz.func43) (Od.lc (Φ := IsI 8 ((qa.den : Int))) 4 78) (fun x0 w' hE d0 => RNeg_f d0)) ?_
        refine RcK (bq (Od.loc 2 76) (Od.loc 5 79) bd_Rat) ?_
        refine RcK (alN al_Rat) ?_
        refine RcS 7 (sQ st_Rat (Od.lc (Φ := IsQ (IsI 8 (-qa.num)) (IsI 8 (-((qa.den : Int))))) 6 80) (IsI.gstb _ _) (IsI.gstb _ _)) ?_
        exact RgAllN.nil
      intro v W9 e1 hΦ hS _
      replace S := S.mono e1
      obtain ⟨g13, v7, q4, S2⟩ := S.addQ (hΦ 7 (by decide) rfl) (hS 8 (by decide) _ _ rfl) hw (IsI.gstb _ _) (IsI.gstb _ _)
      replace S := S2 (ApartO.old hl.out q4); clear S2
      simp only [layL, Act.put, List.setIfInBounds_toArray, List.set_cons_zero, List.set_cons_succ, Nat.reduceAdd]
      rw [v7]
      clear hl hw v7 hΦ hS e1
      refine wpAny_done (by kernel_rfl) ?_ _
      go_upto_region 15 with (fail)
      refine rg 19 [some 81, some 82, some 83, some 84, some 85, some 86, some 87, some 88, some 89, some 90, some 91, some 92, some 93, some 94, some 95, some 96, some 97, some 98, some 6] [IsQ (IsI 9 (qa.num + qa.num)) (IsI 9 (((qa.den : Int)) + ((qa.den : Int)))), IsV (.bool false), IsV (.bool true), IsV (.bool true), IsQ (IsI 8 (-qa.num)) (IsI 8 (-((qa.den : Int)))), IsV (.bool false), IsV (.bool true), IsV (.bool true), IsV (.bool true), IsQ (IsR s3x x3n) (IsR s3y x3d), IsV (.bool vb), IsQ (IsR s3x x3n) (IsR s3y x3d), IsV (.bool vb), IsV (.bool true), IsV (.bool true), IsV (.bool true), IsV (.bool true), IsV (.bool true), IsV (.bool true)] [] 0 ?_ ?_
      · refine Rc (ldQ S 3 2 (g12) 0 (Od.lit 12) ld_Rat rfl rfl) ?_
        refine Rc (cl1 (en Tryz.func41) (Od.lc (Φ := IsQ (IsI 9 (qa.num + qa.num)) (IsI 9 (((qa.den : Int)) + ((qa.den : Int))))) 0 81) (fun x0 w' hE d0 => Calls.mono (qValid_f d0 (by decide)) fun _ _ h => RetB h HTW.out)) ?_
        refine Rc (nt (Od.loc 1 82)) ?_
        refine Rc (mv (Od.lc 2 83)) ?_
        refine RcG 3 84 true (ldQ S 1 0 (g13) 0 (Od.lit 13) ld_Rat rfl rfl) ?_
        refine RcG 3 84 true (cl1 (en Tryz.func41) (Od.lc (Φ := IsQ (IsI 8 (-qa.num)) (IsI 8 (-((qa.den : Int))))) 4 85) (fun x0 w' hE d0 => Calls.mono (qValid_f d0 (by decide)) fun _ _ h => RetB h HTU.out)) ?_
        refine RcG 3 84 true (nt (Od.loc 5 86)) ?_
        refine Rc (pk (Od.loc 3 84) (Od.lc 6 87)) ?_
        refine Rc (mv (Od.lc 7 88)) ?_
        refine RcG 8 89 true (ldQ S 9 8 (w.heap.size + 1 + 1) 0 (Od.lit 5) ld_Rat rfl rfl) ?_
        refine RcG 8 89 true (cl1 (en Tryz.func41) (Od.lc (Φ := IsQ (IsR s3x x3n) (IsR s3y x3d)) 9 90) (fun x0 w' hE d0 => qValid_any d0 HLN.out HVB.out)) ?_
        refine RcG 8 89 true (ldQ S 9 8 (w.heap.size + 1 + 1) 0 (Od.lit 5) ld_Rat rfl rfl) ?_
        refine RcG 8 89 true (cl1 (en Tryz.func40) (Od.lc (Φ := IsQ (IsR s3x x3n) (IsR s3y x3d)) 11 92) (fun x0 w' hE d0 => rqValid_any d0 HLN.out HVB.out)) ?_
        refine RcG 8 89 true (bn (r := .bool true) (Od.loc 10 91) (Od.loc 12 93) (hr := fun w => by go_simp)) ?_
        refine Rc (pk (Od.loc 8 89) (Od.lc 13 94)) ?_
        refine Rc (mv (Od.lc 14 95)) ?_
        refine RcG 15 96 true (mv (Od.lit 7)) ?_
        refine Rc (pk (Od.loc 15 96) (Od.lc 16 97)) ?_
        refine Rc (mv (Od.lc 17 98)) ?_
        exact RgAll.nil
      intro v W10 e1 hΦ _
      replace S := S.mono e1
      have v18 : v 18 = .bool true := hΦ 18 (by decide)
      simp only [layL, Act.put, List.setIfInBounds_toArray, List.set_cons_zero, List.set_cons_succ, Nat.reduceAdd]
      rw [v18]
      clear v18 hΦ e1
      refine wpAny_done (by kernel_rfl) ?_ _
      go_wp2_with fail
      exact bodyPost_ret (v := .bool true) (by simp [results, Tryz.results6, go_sem]) rfl (⟨_, rfl, S.ext, rfl⟩)
    · skip
      obtain ⟨xx, hxx⟩ : ∃ x, [qa, qa + qb, qa - qb, qa * qb][i]? = some x := ⟨_, List.getElem?_eq_getElem (show i < 4 by omega)⟩
      have HX := hid (HL.out i xx hxx)
      have HLT := hid (show (i : Int) < 4 by omega)
      have HIN := hid (show i < 4 by omega)
      have HHN := hid hn; have HHG := hid hg
      have HADD := hid (show IntKind.i64.wrap ((i : Int) + 1) = (i : Int) + 1 by simp only [IntKind.wrap_i64]; omega)
      clear hn hg hxx
      go_upto_region 9 with (fail)
      refine rgs 4 [some 43, some 44, some 45, some 46] [IsV (.int .i64 ((i : Nat) : Int)), IsV (.slice (some ⟨gl, 0, none⟩) 4 4), IsV (.int .i64 4), IsV (.bool true)] [] ?_ ?_
      · refine Rc (mv (Od.lit 11)) ?_
        refine Rc (mv (Od.lit 10)) ?_
        refine RgAll.cons (by { (with_reducible refine RgL.mk (by rfl) ?_); intro v a w' hE hd hf; have d0 : v 1 = .slice (some ⟨gl, 0, none⟩) 4 4 := hd 1 (by kernel_rfl); have ev0 := hf.val 1 44 _ d0 (by kernel_rfl) (by kernel_rfl) (by kernel_rfl); clear d0; clear hd hf; intro K hK; go_simp; exact hK.out _ _ (Ext.refl _) rfl (FreshIf.no rfl) }) ?_
        refine Rc (bn (r := .bool true) (Od.loc 0 43) (Od.loc 2 45) (hr := fun w => by have hx9 := HLT.out; go_simp)) ?_
        exact RgAll.nil
      intro v W11 e1 hΦ _
      replace S := S.mono e1
      replace hx0 := hx0.trans e1
      have v3 : v 3 = .bool true := hΦ 3 (by decide)
      simp only [layL, Act.put, List.setIfInBounds_toArray, List.set_cons_zero, List.set_cons_succ, Nat.reduceAdd]
      rw [v3]
      clear v3 hΦ e1
      refine wpList_nil ?_
      go_upto_region 11 with (fail)
      refine rgs 14 [some 49, some 50, some 51, some 52, some 53, some 54, some 55, some 56, some 57, some 58, some 59, some 60, some 61, some 62] [IsV (.slice (some ⟨gl, 0, none⟩) 4 4), IsV (.int .i64 ((i : Nat) : Int)), IsV (.pointer (some ⟨gl, 2 * (2 * i), none⟩)), IsQ (IsI 17 xx.num) (IsI 17 ((xx.den : Int))), IsV (.bool true), IsV (.bool false), IsV (.bool false), IsV (.slice (some ⟨gl, 0, none⟩) 4 4), IsV (.int .i64 ((i : Nat) : Int)), IsV (.pointer (some ⟨gl, 2 * (2 * i), none⟩)), IsQ (IsI 17 xx.num) (IsI 17 ((xx.den : Int))), IsV (.bool true), IsV (.bool false), IsV (.bool false)] [] ?_ ?_
      · refine Rc (mv (Od.lit 10)) ?_
        refine Rc (mv (Od.lit 11)) ?_
        refine Rc (ix (ix_Rat gl 4 4 i HIN.out) (Od.lc 0 49) (Od.lc 1 50)) ?_
        refine Rc (ldX (fun w2 hE => HX.out w2 (hx0.trans hE)) (Od.lc 2 51) ld_Rat) ?_
        refine Rc (cl1 (en Tryz.func40) (Od.lc (Φ := IsQ (IsI 17 xx.num) (IsI 17 ((xx.den : Int)))) 3 52) (fun x0 w' hE d0 => Calls.mono (rqValid_f d0 (by decide)) fun _ _ h => RetB h (validQ_rat _))) ?_
        refine Rc (nt (Od.loc 4 53)) ?_
        refine Rc (mv (Od.lc 5 54)) ?_
        refine RcG 6 55 false (mv (Od.lit 10)) ?_
        refine RcG 6 55 false (mv (Od.lit 11)) ?_
        refine RcG 6 55 false (ix (ix_Rat gl 4 4 i HIN.out) (Od.lc 7 56) (Od.lc 8 57)) ?_
        refine RcG 6 55 false (ldX (fun w2 hE => HX.out w2 (hx0.trans hE)) (Od.lc 9 58) ld_Rat) ?_
        refine RcG 6 55 false (cl1 (en Tryz.func41) (Od.lc (Φ := IsQ (IsI 17 xx.num) (IsI 17 ((xx.den : Int)))) 10 59) (fun x0 w' hE d0 => Calls.mono (qValid_f d0 (by decide)) fun _ _ h => RetB h (validQ_rat _))) ?_
        refine RcG 6 55 false (nt (Od.loc 11 60)) ?_
        refine Rc (pk (Od.loc 6 55) (Od.lc 12 61)) ?_
        exact RgAll.nil
      intro v W12 e1 hΦ _
      replace S := S.mono e1
      replace hx0 := hx0.trans e1
      have v13 : v 13 = .bool false := hΦ 13 (by decide)
      simp only [layL, Act.put, List.setIfInBounds_toArray, List.set_cons_zero, List.set_cons_succ, Nat.reduceAdd]
      rw [v13]
      clear v13 hΦ e1
      refine wpList_nil ?_
      have hx9 := HADD.out
      have S' := hid S; clear S
      go_wp2_with fail
      go_roundg (gk - 1)
      case measure => have := HHG.out; omega
      case rel => exact ⟨i + 1, by rw [Int.natCast_add]; rfl, by have := HHN.out; have := HHG.out; omega, hx0, S'⟩

theorem QValid_c (w : World) (s1x s1y s2x s2y s3x s3y : Bool) (a1x a1y a2x a2y a3x a3y : Option Addr) (n1x c1x n1y c1y n2x c2x n2y c2y n3x c3x n3y c3y : Nat) (x1n x1d x2n x2d x3n x3d : List Nat) (h1x : Wd w a1x n1x c1x x1n) (h1y : Wd w a1y n1y c1y x1d) (h2x : Wd w a2x n2x c2x x2n) (h2y : Wd w a2y n2y c2y x2d) (h3x : Wd w a3x n3x c3x x3n) (h3y : Wd w a3y n3y c3y x3d) (ht : Tab w) (hsz : x3n.length + x3d.length ≤ 4611686018427387904) :
    Calls Tryz.prog 6 #[.agg #[.bool s1x, .slice a1x n1x c1x, .bool s1y, .slice a1y n1y c1y], .agg #[.bool s2x, .slice a2x n2x c2x, .bool s2y, .slice a2y n2y c2y], .agg #[.bool s3x, .slice a3x n3x c3x, .bool s3y, .slice a3y n3y c3y]] w (Ret w (IsV (.bool true))) := by
  have hw : IntKind.i64.wrap ((x3n.length : Int) + (x3d.length : Int)) = (x3n.length : Int) + (x3d.length : Int) := by simp only [IntKind.wrap_i64]; omega
  by_cases h : x3n.length + x3d.length ≤ 40
  · exact QValid_s w s1x s1y s2x s2y s3x s3y a1x a1y a2x a2y a3x a3y n1x c1x n1y c1y n2x c2x n2y c2y n3x c3x n3y c3y x1n x1d x2n x2d x3n x3d h1x h1y h2x h2y h3x h3y ht _ _ _ _ (hid hw) (hid (decide_eq_false (by omega))) (hid rfl) (hid rfl) (hid (by omega)) (hid rfl) (hid (validQ_two _)) (hid (validQ_neg _))
  · exact QValid_l w s1x s1y s2x s2y s3x s3y a1x a1y a2x a2y a3x a3y n1x c1x n1y c1y n2x c2x n2y c2y n3x c3x n3y c3y x1n x1d x2n x2d x3n x3d h1x h1y h2x h2y h3x h3y ht _ (hid hw) (hid (decide_eq_true (by omega)))
end Go.Proofs.YtcgdkfadcglekaaGreatDoor
namespace Go.Proofs.YtcgdkfadcglekaaGreatDoor
open Go Go.RowKit Go.ChangeShapes Go.WideShapes Go.ChangeAt

set_option maxRecDepth 100000 in
theorem rationalValid_lifted (os : Os) (started : os.Started) (H : Type) (enc : TypeId × Value → H) :
    ReturnsInHanded {} Tryz.checked os 6 .any (fun w args => (Rows.rationalValidSpec.pre enc Tryz.prog Tryz.f6 [] false w args ∧ laidMetH Tryz.prog laid3 w) ∧ sizedMet enc Tryz.prog Tryz.f6 (OpenSpec.ofChange Rows.rationalValidSpec) false w args)
      (Rows.rationalValidSpec.post enc Tryz.prog Tryz.f6 false true false false) := by
  refine returnsInHanded_of_change_and (C := Tryz.checked) (X := fun w _ => laidMetH Tryz.prog laid3 w) (fun _ _ _ hh h => h.of_heap hh) own started (by kernel_rfl) Tryz.func6
    (ChangeSpec.witness_shaped (enc := enc) (C := Tryz.checked) (os := os) (X := fun w _ => laidMetH Tryz.prog laid3 w) false (World.doorLaid Tryz.prog 2000 os) #[.agg #[.bool false, .slice none 0 0, .bool false, .slice none 0 0], .agg #[.bool false, .slice none 0 0, .bool false, .slice none 0 0], .agg #[.bool false, .slice none 0 0, .bool false, .slice none 0 0]] 8 rfl (World.shaped_of_RefB (by kernel_rfl) (by kernel_rfl)) (by kernel_rfl) (by kernel_rfl) (by kernel_rfl) (door_met os _)) ?_
  intro W base args ds gs before hval0 hW _ hsz hL _
  have hval : ∀ (j : Nat) t v, Tryz.f6.params[j]? = some t → args[j]? = some v → Value.okWide Tryz.prog W .any base t v := hval0
  have hW' := hW
  obtain ⟨p, q, hA0, hV, rfl, hfz, hnd⟩ := hW
  have hA : DataW.TrodAll enc Tryz.prog W 0 (fun _ => true) true Tryz.f6.params.toList args.toList ds p := hA0
  rw [Tryz.params6] at hA hval
  obtain ⟨v1, v2, v3, d1, d2, d3, p1, p2, p3, rfl, rfl, rfl, k1, k2, k3⟩ := trodAll_three hA
  obtain ⟨rfl, rfl⟩ := trodVars_none hV
  obtain ⟨s1x, a1x, n1x, c1x, x1n, s1y, a1y, n1y, c1y, x1d, rfl, w1x, w1y, r1⟩ := rawq_open (hval 0 26 v1 rfl rfl) k1
  obtain ⟨s2x, a2x, n2x, c2x, x2n, s2y, a2y, n2y, c2y, x2d, rfl, w2x, w2y, r2⟩ := rawq_open (hval 1 26 v2 rfl rfl) k2
  obtain ⟨s3x, a3x, n3x, c3x, x3n, s3y, a3y, n3y, c3y, x3d, rfl, w3x, w3y, r3⟩ := ratv_open (hval 2 31 v3 rfl rfl) k3
  have z3 := ratv_len k3 fun x hx => by simpa using List.all_eq_true.1 hsz x (DataW.weights_mem_each (j := 2) (t := 31) (d := d3) rfl rfl x hx)
  clear hA0 hval0
  refine (QValid_c W s1x s1y s2x s2y s3x s3y a1x a1y a2x a2y a3x a3y n1x c1x n1y c1y n2x c2x n2y c2y n3x c3x n3y c3y x1n x1d x2n x2d x3n x3d w1x w1y w2x w2y w3x w3y (tab_of_laid hL) (by have := z3.1; have := z3.2; have := w3x.len; have := w3y.len; omega)).mono fun e W' ⟨x, he, hb, hx⟩ => ?_
  have hx : x = .bool true := hx
  subst he; subst hx
  refine ⟨_, rfl, post_of_below (pa := p1 ++ (p2 ++ p3)) (pv := []) hW' (fun _ _ _ => trodAll_mk1 (shut_bool Tryz.underlying4 true)) (fun sp hsp => ?_) (fun _ _ => rfl) (by simp) hb (ok_one (by kernel_rfl) rfl (okWide_bool_mk Tryz.underlying4 _))⟩
  rw [Tryz.params6]
  exact trodAll_mk3 (r1 W' sp hb fun q hq => hsp q (by simp [hq])) (r2 W' sp hb fun q hq => hsp q (by simp [hq])) (r3 W' sp hb fun q hq => hsp q (by simp [hq]))

theorem rationalValid_row : Rows.RationalValidSaid :=
  OpenClaim.holds_of_wide 6 Tryz.f6 rfl rfl rfl rfl rfl rfl rfl ⟨rfl, rfl, rfl, rfl, rfl⟩ rfl rfl rfl rfl rfl (by kernel_rfl) Tryz.func6 (by kernel_rfl)
    (of_decide_eq_true (by kernel_rfl)) (by unfold Func.isWrapper; first | (rw [if_pos (by decide +kernel)]; kernel_rfl) | (rw [if_neg (by decide +kernel)]; exact ⟨rfl, rfl⟩))
    (fun os started H enc _ => rationalValid_lifted os started H enc)

set_option maxRecDepth 100000 in
/-- The tied card. -/
theorem rationalValid_holds : Rows.RationalValidCardSaid :=
  Claim7.holds_tied_plain_at .later [] [.data, .data, .data] true Rows.rationalValidCard.stood.harness false
    rationalValid_row (fun _ h => by cases h) (by kernel_rfl) (fun _ h => by cases h) rationalValid_row_tie rfl ⟨rfl, rfl⟩ (by kernel_rfl) rfl
    (fun f fn hf hfn => by
      obtain rfl : f = 6 := Option.some.inj ((show Tryz.prog.funcNamed "algorist/algoristlaw02.RationalValid" = some 6 by kernel_rfl).symm.trans hf) |>.symm
      obtain rfl : fn = Tryz.f6 := (Option.some.inj (Tryz.func6.symm.trans hfn)).symm
      refine ⟨by kernel_rfl, fun j t ht => ?_⟩
      rw [Tryz.params6] at ht
      have h3 : t = 26 ∨ t = 31 := by
        rcases j with _ | _ | _ | j
        · left; simpa using ht.symm
        · left; simpa using ht.symm
        · right; simpa using ht.symm
        · simp at ht
      rcases h3 with rfl | rfl
      · exact (show Tryz.prog.wantsStandIn 26 = false by kernel_rfl)
      · exact (show Tryz.prog.wantsStandIn 31 = false by kernel_rfl))
    (by kernel_rfl)
#print axioms rationalValid_holds
end Go.Proofs.YtcgdkfadcglekaaGreatDoor
