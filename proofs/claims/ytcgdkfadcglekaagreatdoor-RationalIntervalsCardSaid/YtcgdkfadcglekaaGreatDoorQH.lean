/-
  Whether an interval has a number: Has of both packages. Guards that are not known. (Printed by wip/gen/rat12.py, parted by hand.)
-/
import Derived.Test.YtcgdkfadcglekaaGreatDoorQ3
import Derived.Test.YtcgdkfadcglekaaGreatDoorSto
namespace Go.Proofs.YtcgdkfadcglekaaGreatDoor
open Go Go.RowKit
/-- An interval of two fractions. -/
abbrev IsIv (K : Nat) (p q : Rat) : Value → World → Prop := IsJ (IsI K p.num) (IsI K (p.den : Int)) (IsI K q.num) (IsI K (q.den : Int))
theorem RetB {w w' : World} {vs : Ending} {b b' : Bool} (h : Ret w (IsV (.bool b)) vs w') (e : b = b') : Ret w (IsV (.bool b')) vs w' := e ▸ h

/-- A fact of a guarded operation whose guard is a letter. -/
def IsIf (b : Bool) (Φ : Value → World → Prop) : Value → World → Prop := fun x w => bif b then Φ x w else x = undef
theorem IsIf.stb {b : Bool} {Φ : Value → World → Prop} (h : Stb Φ) : Stb (IsIf b Φ) := fun x w w' e k => by
  cases b
  · exact k
  · exact h x w w' e k
section
variable {P : Program} {ops : Array Oper} {Q : Exit → Act → World → Prop} {ds : List (Option Tmp)} {a0 : Act} {w0 : World} {L : List (Value → World → Prop)} {boxes : List Nat} {i k : Nat} {o : Oper} {os : List Oper}
theorem RcB (g t : Nat) (b pol : Bool) (h : b = pol → Ok P ops Q ds a0 w0 L boxes i o) (hs : RgAll P .any ops Q ds a0 w0 L boxes (i + 1) k os) (hg : o.guard = some (g, pol) := by rfl) (hdst : dstOf ops g = some t := by kernel_rfl) (h1 : ds[g]? = some (some t) := by kernel_rfl) (h2 : (ds.drop (g + 1)).contains (some t) = false := by kernel_rfl) (h3 : decide (t < a0.tmps.size) = true := by kernel_rfl) (hu : (ups .any ops i).contains g = true := by kernel_rfl)
    (hL : L.getD g (fun _ _ => True) = IsV (.bool b) := by kernel_rfl) (hb : boxes.contains i = false := by kernel_rfl) (hi : b = (!pol) → L.getD i (fun _ _ => True) = IsV undef := by intro h; subst h; kernel_rfl) : RgAll P .any ops Q ds a0 w0 L boxes i (k + 1) (o :: os) := by
  refine ⟨?_, hs⟩
  by_cases hbp : b = pol
  · have hL' : L.getD g (fun _ _ => True) = IsV (.bool pol) := by rw [hL, hbp]
    exact RgL.mkG g t pol hg hdst h1 h2 h3 hu (fun _ _ h => by rw [hL'] at h; exact h) (h hbp).out
  · have hbn : b = !pol := by cases b <;> cases pol <;> simp_all
    have hL' : L.getD g (fun _ _ => True) = IsV (.bool (!pol)) := by rw [hL, hbn]
    exact RgL.mkN g t (!pol) (by rw [hg, Bool.not_not]) hdst h1 h2 h3 hu (fun _ _ h => by rw [hL'] at h; exact h) hb (fun _ => by rw [hi hbn]; exact rfl)
theorem pkA {c y : Operand} {b b2 r : Bool} (hc : Od ops ds a0 w0 L i c (IsV (.bool b))) (hy : b = true → Od ops ds a0 w0 L i y (IsV (.bool b2))) (hr : (b && b2) = r) (ho : o.op = .pick c y (.const (.bool false)) := by rfl) (hi : L.getD i (fun _ _ => True) = IsV (.bool r) := by kernel_rfl) (hb : boxes.contains i = false := by kernel_rfl) : Ok P ops Q ds a0 w0 L boxes i o :=
  Ok.of hb fun v a w hE hd hf => by
    have h1 : a.eval c = .bool b := hc.out v a w hE hd hf
    refine ⟨.bool r, ?_, by rw [hi]; exact rfl⟩
    unfold execOp
    rw [ho]
    dsimp only
    rw [h1]
    cases b
    · subst hr; simp [asBool]; rfl
    · have h2 : a.eval y = .bool b2 := (hy rfl).out v a w hE hd hf
      rw [h2]
      subst hr; simp [asBool]
end

section
variable {ops : Array Oper} {Q : Exit → Act → World → Prop} {ds : List (Option Tmp)} {a0 : Act} {w0 : World} {L : List (Value → World → Prop)} {boxes : List Nat} {i : Nat} {o : Oper}
end

/-- Whether an interval has a number. -/
def hasQ (p q r : Rat) : Bool := decide (cmpQ p r ≤ 0) && decide (cmpQ r q ≤ 0)

set_option maxRecDepth 100000 in
set_option maxHeartbeats 4000000 in
theorem qHas_f {k1 k2 : Nat} {p q r : Rat} {x y : Value} {w : World} (hx : IsIv k1 p q x w) (hy : IsRat k2 r y w) (l : k1 ≤ 10000 ∧ k2 ≤ 10000) : Calls Tryz.prog 58 #[x, y] w (Ret w (IsV (.bool (hasQ p q r)))) := by
  have HK := hid l
  clear l
  obtain ⟨c1, hc1⟩ : ∃ x, cmpQ p r = x := ⟨_, rfl⟩
  have H1 := hid hc1
  obtain ⟨c2, hc2⟩ : ∃ x, cmpQ r q = x := ⟨_, rfl⟩
  have H2 := hid hc2
  obtain ⟨b1, hb1⟩ : ∃ x, decide (c1 ≤ 0) = x := ⟨_, rfl⟩
  have HB1 := hid hb1
  obtain ⟨b2, hb2⟩ : ∃ x, decide (c2 ≤ 0) = x := ⟨_, rfl⟩
  have HB2 := hid hb2
  obtain ⟨b3, hb3⟩ : ∃ x, (b1 && b2) = x := ⟨_, rfl⟩
  have HB3 := hid hb3
  have HB4 := hid (show IsV (.bool (hasQ p q r)) (.bool b3) w from by unfold hasQ; rw [hc1, hc2, hb1, hb2, hb3]; rfl)
  clear hc1 hc2 hb1 hb2 hb3
  obtain ⟨s1x, a1x, n1x, c1x, s1y, a1y, n1y, c1y, s1z, a1z, n1z, c1z, s1t, a1t, n1t, c1t, rfl, h1x, h1y, h1z, h1t⟩ := hx
  obtain ⟨s2x, a2x, n2x, c2x, s2y, a2y, n2y, c2y, rfl, h2x, h2y⟩ := hy
  obtain ⟨W, hW, S⟩ : ∃ W, W = (w.alloc (.cells #[.bool s1x, .slice a1x n1x c1x, .bool s1y, .slice a1y n1y c1y, .bool s1z, .slice a1z n1z c1z, .bool s1t, .slice a1t n1t c1t] 44)).alloc (.cells #[.bool s2x, .slice a2x n2x c2x, .bool s2y, .slice a2y n2y c2y] 31) ∧ Sto w W [((w.heap.size + 1, 1), IsI k2 ((r.den : Int))), ((w.heap.size + 1, 0), IsI k2 r.num), ((w.heap.size, 3), IsI k1 ((q.den : Int))), ((w.heap.size, 2), IsI k1 q.num), ((w.heap.size, 1), IsI k1 ((p.den : Int))), ((w.heap.size, 0), IsI k1 p.num)] := ⟨_, rfl, (((Sto.start w).new4 (w.heap.size) (by simp) s1x s1y s1z s1t a1x a1y a1z a1t n1x c1x n1y c1y n1z c1z n1t c1t 44 (IsI k1 p.num) (IsI k1 ((p.den : Int))) (IsI k1 q.num) (IsI k1 ((q.den : Int))) (IsI.gstb _ _) (h1x) (IsI.gstb _ _) (h1y) (IsI.gstb _ _) (h1z) (IsI.gstb _ _) (h1t)).new2 (w.heap.size + 1) (by simp) s2x s2y a2x a2y n2x c2x n2y c2y 31 (IsI k2 r.num) (IsI k2 ((r.den : Int))) (IsI.gstb _ _) (h2x.ext ((Ext.refl _).alloc _)) (IsI.gstb _ _) (h2y.ext ((Ext.refl _).alloc _)))⟩
  clear h1x h1y h1z h1t h2x h2y
  go_enter Tryz.func58, Tryz.ntmps58
  go_upto_region 1 with (fail)
  rw [← hW]
  clear hW
  refine rgs 13 [some 5, some 6, some 7, some 8, some 9, some 10, some 11, some 12, some 13, some 14, some 15, some 16, some 4] [IsV (.pointer (some ⟨w.heap.size, 0, none⟩)), IsQ (IsI k1 p.num) (IsI k1 ((p.den : Int))), IsQ (IsI k2 r.num) (IsI k2 ((r.den : Int))), IsV (.int .i64 c1), IsV (.bool b1), IsV (.bool b1), IsIf (b1) (IsQ (IsI k2 r.num) (IsI k2 ((r.den : Int)))), IsIf (b1) (IsV (.pointer (some ⟨w.heap.size, 4, none⟩))), IsIf (b1) (IsQ (IsI k1 q.num) (IsI k1 ((q.den : Int)))), IsIf (b1) (IsV (.int .i64 c2)), IsIf (b1) (IsV (.bool b2)), IsV (.bool b3), IsV (.bool b3)] [] ?_ ?_ (hst := by repeat' (first | exact trivial | apply IsIf.stb | exact IsV.stb _ | exact IsI.stb _ _ | apply IsQ.stb | apply And.intro))
  · refine Rc (fa (fa_Iv0 (w.heap.size) 0) (Od.lit 2)) ?_
    refine Rc (ldQ S 5 4 (w.heap.size) 0 (Od.lc 0 5) ld_Rat rfl rfl) ?_
    refine Rc (ldQ S 1 0 (w.heap.size + 1) 0 (Od.lit 3) ld_Rat rfl rfl) ?_
    refine Rc (cl2 (en Tryz.func21) (Od.lc (Φ := IsQ (IsI k1 p.num) (IsI k1 ((p.den : Int)))) 1 6) (Od.lc (Φ := IsQ (IsI k2 r.num) (IsI k2 ((r.den : Int)))) 2 7) (fun x0 x1 w' hE d0 d1 => Calls.mono (qCmp_f d0 d1 (by have := HK.out; omega) (by have := HK.out; omega)) fun _ _ h => h.int H1.out)) ?_
    refine Rc (bn (r := .bool b1) (Od.loc 3 8) Od.con (hr := fun w => by have hx9 := HB1.out; go_simp)) ?_
    refine Rc (mv (Od.lc 4 9)) ?_
    refine RcB 5 10 b1 true (fun hb => by subst hb; exact ldQ S 1 0 (w.heap.size + 1) 0 (Od.lit 3) ld_Rat rfl rfl) ?_
    refine RcB 5 10 b1 true (fun hb => by subst hb; exact fa (fa_Iv1 (w.heap.size) 0) (Od.lit 2)) ?_
    refine RcB 5 10 b1 true (fun hb => by subst hb; exact ldQ S 3 2 (w.heap.size) 2 (Od.lc 7 12) ld_Rat rfl rfl) ?_
    refine RcB 5 10 b1 true (fun hb => by subst hb; exact cl2 (en Tryz.func21) (Od.lc (Φ := IsQ (IsI k2 r.num) (IsI k2 ((r.den : Int)))) 6 11) (Od.lc (Φ := IsQ (IsI k1 q.num) (IsI k1 ((q.den : Int)))) 8 13) (fun x0 x1 w' hE d0 d1 => Calls.mono (qCmp_f d0 d1 (by have := HK.out; omega) (by have := HK.out; omega)) fun _ _ h => h.int H2.out)) ?_
    refine RcB 5 10 b1 true (fun hb => by subst hb; exact bn (r := .bool b2) (Od.loc 9 14) Od.con (hr := fun w => by have hx9 := HB2.out; go_simp)) ?_
    refine Rc (pkA (b2 := b2) (Od.loc 5 10) (fun hb => by subst hb; exact Od.lc 10 15) (HB3.out)) ?_
    refine Rc (mv (Od.lc 11 16)) ?_
    exact RgAll.nil
  intro v W1 e1 hΦ _
  replace S := S.mono e1
  have v12 : v 12 = .bool b3 := hΦ 12 (by decide)
  simp only [layL, Act.put, List.setIfInBounds_toArray, List.set_cons_zero, List.set_cons_succ, Nat.reduceAdd]
  rw [v12]
  clear v12 hΦ e1
  refine wpList_nil ?_
  go_wp2_with fail
  exact bodyPost_ret (v := .bool b3) (by simp [results, Tryz.results58, go_sem]) rfl (⟨_, rfl, S.ext, HB4.out⟩)

set_option maxRecDepth 100000 in
set_option maxHeartbeats 4000000 in
theorem rqHas_f {k1 k2 : Nat} {p q r : Rat} {x y : Value} {w : World} (hx : IsIv k1 p q x w) (hy : IsRat k2 r y w) (l : k1 ≤ 10000 ∧ k2 ≤ 10000) : Calls Tryz.prog 22 #[x, y] w (Ret w (IsV (.bool (hasQ p q r)))) := by
  have HK := hid l
  clear l
  obtain ⟨c1, hc1⟩ : ∃ x, cmpQ p r = x := ⟨_, rfl⟩
  have H1 := hid hc1
  obtain ⟨c2, hc2⟩ : ∃ x, cmpQ r q = x := ⟨_, rfl⟩
  have H2 := hid hc2
  obtain ⟨b1, hb1⟩ : ∃ x, decide (c1 ≤ 0) = x := ⟨_, rfl⟩
  have HB1 := hid hb1
  obtain ⟨b2, hb2⟩ : ∃ x, decide (c2 ≤ 0) = x := ⟨_, rfl⟩
  have HB2 := hid hb2
  obtain ⟨b3, hb3⟩ : ∃ x, (b1 && b2) = x := ⟨_, rfl⟩
  have HB3 := hid hb3
  have HB4 := hid (show IsV (.bool (hasQ p q r)) (.bool b3) w from by unfold hasQ; rw [hc1, hc2, hb1, hb2, hb3]; rfl)
  clear hc1 hc2 hb1 hb2 hb3
  obtain ⟨s1x, a1x, n1x, c1x, s1y, a1y, n1y, c1y, s1z, a1z, n1z, c1z, s1t, a1t, n1t, c1t, rfl, h1x, h1y, h1z, h1t⟩ := hx
  obtain ⟨s2x, a2x, n2x, c2x, s2y, a2y, n2y, c2y, rfl, h2x, h2y⟩ := hy
  obtain ⟨W, hW, S⟩ : ∃ W, W = (w.alloc (.cells #[.bool s1x, .slice a1x n1x c1x, .bool s1y, .slice a1y n1y c1y, .bool s1z, .slice a1z n1z c1z, .bool s1t, .slice a1t n1t c1t] 44)).alloc (.cells #[.bool s2x, .slice a2x n2x c2x, .bool s2y, .slice a2y n2y c2y] 31) ∧ Sto w W [((w.heap.size + 1, 1), IsI k2 ((r.den : Int))), ((w.heap.size + 1, 0), IsI k2 r.num), ((w.heap.size, 3), IsI k1 ((q.den : Int))), ((w.heap.size, 2), IsI k1 q.num), ((w.heap.size, 1), IsI k1 ((p.den : Int))), ((w.heap.size, 0), IsI k1 p.num)] := ⟨_, rfl, (((Sto.start w).new4 (w.heap.size) (by simp) s1x s1y s1z s1t a1x a1y a1z a1t n1x c1x n1y c1y n1z c1z n1t c1t 44 (IsI k1 p.num) (IsI k1 ((p.den : Int))) (IsI k1 q.num) (IsI k1 ((q.den : Int))) (IsI.gstb _ _) (h1x) (IsI.gstb _ _) (h1y) (IsI.gstb _ _) (h1z) (IsI.gstb _ _) (h1t)).new2 (w.heap.size + 1) (by simp) s2x s2y a2x a2y n2x c2x n2y c2y 31 (IsI k2 r.num) (IsI k2 ((r.den : Int))) (IsI.gstb _ _) (h2x.ext ((Ext.refl _).alloc _)) (IsI.gstb _ _) (h2y.ext ((Ext.refl _).alloc _)))⟩
  clear h1x h1y h1z h1t h2x h2y
  go_enter Tryz.func22, Tryz.ntmps22
  go_upto_region 1 with (fail)
  rw [← hW]
  clear hW
  refine rgs 13 [some 5, some 6, some 7, some 8, some 9, some 10, some 11, some 12, some 13, some 14, some 15, some 16, some 4] [IsV (.pointer (some ⟨w.heap.size, 0, none⟩)), IsQ (IsI k1 p.num) (IsI k1 ((p.den : Int))), IsQ (IsI k2 r.num) (IsI k2 ((r.den : Int))), IsV (.int .i64 c1), IsV (.bool b1), IsV (.bool b1), IsIf (b1) (IsQ (IsI k2 r.num) (IsI k2 ((r.den : Int)))), IsIf (b1) (IsV (.pointer (some ⟨w.heap.size, 4, none⟩))), IsIf (b1) (IsQ (IsI k1 q.num) (IsI k1 ((q.den : Int)))), IsIf (b1) (IsV (.int .i64 c2)), IsIf (b1) (IsV (.bool b2)), IsV (.bool b3), IsV (.bool b3)] [] ?_ ?_ (hst := by repeat' (first | exact trivial | apply IsIf.stb | exact IsV.stb _ | exact IsI.stb _ _ | apply IsQ.stb | apply And.intro))
  · refine Rc (fa (fa_Iv0 (w.heap.size) 0) (Od.lit 2)) ?_
    refine Rc (ldQ S 5 4 (w.heap.size) 0 (Od.lc 0 5) ld_Rat rfl rfl) ?_
    refine Rc (ldQ S 1 0 (w.heap.size + 1) 0 (Od.lit 3) ld_Rat rfl rfl) ?_
    refine Rc (cl2 (en Tryz.func28) (Od.lc (Φ := IsQ (IsI k1 p.num) (IsI k1 ((p.den : Int)))) 1 6) (Od.lc (Φ := IsQ (IsI k2 r.num) (IsI k2 ((r.den : Int)))) 2 7) (fun x0 x1 w' hE d0 d1 => Calls.mono (rqCmp_f d0 d1 (by have := HK.out; omega) (by have := HK.out; omega)) fun _ _ h => h.int H1.out)) ?_
    refine Rc (bn (r := .bool b1) (Od.loc 3 8) Od.con (hr := fun w => by have hx9 := HB1.out; go_simp)) ?_
    refine Rc (mv (Od.lc 4 9)) ?_
    refine RcB 5 10 b1 true (fun hb => by subst hb; exact ldQ S 1 0 (w.heap.size + 1) 0 (Od.lit 3) ld_Rat rfl rfl) ?_
    refine RcB 5 10 b1 true (fun hb => by subst hb; exact fa (fa_Iv1 (w.heap.size) 0) (Od.lit 2)) ?_
    refine RcB 5 10 b1 true (fun hb => by subst hb; exact ldQ S 3 2 (w.heap.size) 2 (Od.lc 7 12) ld_Rat rfl rfl) ?_
    refine RcB 5 10 b1 true (fun hb => by subst hb; exact cl2 (en Tryz.func28) (Od.lc (Φ := IsQ (IsI k2 r.num) (IsI k2 ((r.den : Int)))) 6 11) (Od.lc (Φ := IsQ (IsI k1 q.num) (IsI k1 ((q.den : Int)))) 8 13) (fun x0 x1 w' hE d0 d1 => Calls.mono (rqCmp_f d0 d1 (by have := HK.out; omega) (by have := HK.out; omega)) fun _ _ h => h.int H2.out)) ?_
    refine RcB 5 10 b1 true (fun hb => by subst hb; exact bn (r := .bool b2) (Od.loc 9 14) Od.con (hr := fun w => by have hx9 := HB2.out; go_simp)) ?_
    refine Rc (pkA (b2 := b2) (Od.loc 5 10) (fun hb => by subst hb; exact Od.lc 10 15) (HB3.out)) ?_
    refine Rc (mv (Od.lc 11 16)) ?_
    exact RgAll.nil
  intro v W1 e1 hΦ _
  replace S := S.mono e1
  have v12 : v 12 = .bool b3 := hΦ 12 (by decide)
  simp only [layL, Act.put, List.setIfInBounds_toArray, List.set_cons_zero, List.set_cons_succ, Nat.reduceAdd]
  rw [v12]
  clear v12 hΦ e1
  refine wpList_nil ?_
  go_wp2_with fail
  exact bodyPost_ret (v := .bool b3) (by simp [results, Tryz.results22, go_sem]) rfl (⟨_, rfl, S.ext, HB4.out⟩)
end Go.Proofs.YtcgdkfadcglekaaGreatDoor
