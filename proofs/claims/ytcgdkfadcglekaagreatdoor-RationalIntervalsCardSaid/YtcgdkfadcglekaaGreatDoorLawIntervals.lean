/-
  The statement RationalIntervals: for every argument made of descriptions of fractions the law answers true, and the descriptions read behind the call as they read before. The listed package variables hold what the program's text lays (the card ties them).
-/
import Derived.Test.YtcgdkfadcglekaaGreatDoorQe
import Derived.Test.YtcgdkfadcglekaaGreatDoorQ14
import Derived.Test.YtcgdkfadcglekaaGreatDoorReadP
import Derived.Test.YtcgdkfadcglekaaGreatDoorTie
import Derived.Test.YtcgdkfadcglekaaGreatDoorCards
import Derived.SevenTiedAt
namespace Go.Proofs.YtcgdkfadcglekaaGreatDoor
open Go Go.RowKit

theorem Ret.iv {k : Nat} {p q p' q' : Rat} {w w' : World} {e : Ending} (h : Ret w (IsIv k p q) e w') (h1 : p = p') (h2 : q = q') : Ret w (IsIv k p' q') e w' := h1 ▸ h2 ▸ h
theorem sameI_self (p q : Rat) : (decide (p = p) && decide (q = q)) = true := by simp
theorem ia_P2_0 (g f : Nat) (w : World) : (Instr.indexAt 66 (.pointer (some ⟨g, f, none⟩)) (.int .i64 0)).run Tryz.prog w = .ok (.pointer (some ⟨g, f, none⟩)) w := by go_simp
theorem ia_P2_1 (g f : Nat) (w : World) : (Instr.indexAt 66 (.pointer (some ⟨g, f, none⟩)) (.int .i64 1)).run Tryz.prog w = .ok (.pointer (some ⟨g, f + 4, none⟩)) w := by go_simp
theorem cell_newAt (w : World) (g : Nat) (hg : w.heap.size = g) (cs : Array Value) (T i : Nat) (v : Value) (h : cs[i]? = some v) : World.cell? (w.alloc (.cells cs T)) ⟨g, i, none⟩ = some v := by subst hg; simp [h]
theorem ia_B2_0 (g : Nat) (w : World) : (Instr.indexAt 72 (.pointer (some ⟨g, 0, none⟩)) (.int .i64 0)).run Tryz.prog w = .ok (.pointer (some ⟨g, 0, none⟩)) w := by go_simp
theorem ia_B2_1 (g : Nat) (w : World) : (Instr.indexAt 72 (.pointer (some ⟨g, 0, none⟩)) (.int .i64 1)).run Tryz.prog w = .ok (.pointer (some ⟨g, 1, none⟩)) w := by go_simp
def LdC (P : Program) (T : TypeId) : Prop := ∀ (w : World) (b : Addr) (v : Value), w.cell? b = some v → (Instr.loadAt T (.pointer (some b))).run P w = .ok v w
theorem ld_u8 : LdC Tryz.prog 5 := fun w b v h => by go_simp
section
variable {ops : Array Oper} {Q : Exit → Act → World → Prop} {ds : List (Option Tmp)} {a0 : Act} {w0 : World} {L : List (Value → World → Prop)} {boxes : List Nat} {i : Nat} {o : Oper}
theorem ldC {b : Addr} {v : Value} {T : Nat} {x : Operand} (hc : World.cell? w0 b = some v) (hT : LdC Tryz.prog T) (hx : Od ops ds a0 w0 L i x (IsV (.pointer (some b)))) (ho : o.op = .load T x := by rfl) (hi : L.getD i (fun _ _ => True) = IsV v := by kernel_rfl) (hb : boxes.contains i = false := by kernel_rfl) : Ok Tryz.prog ops Q ds a0 w0 L boxes i o :=
  Ok.of hb fun v' a w hE hd hf => by
    have h : a.eval x = _ := hx.out v' a w hE hd hf
    exact ⟨_, ld_run ho h (hT w b v (hE.cell hc)), by rw [hi]; exact rfl⟩
end
set_option maxRecDepth 100000 in
set_option maxHeartbeats 8000000 in
theorem Intervals_1 (w : World) (s1x s1y s1z s1t s2x s2y s2z s2t : Bool) (a1x a1y a1z a1t a2x a2y a2z a2t : Option Addr) (n1x c1x n1y c1y n1z c1z n1t c1t n2x c2x n2y c2y n2z c2z n2t c2t : Nat) (x1xn x1xd x1zn x1zd x2xn x2xd x2zn x2zd : List Nat) (i3 j3 : Int) (h1x : Wd w a1x n1x c1x x1xn) (h1y : Wd w a1y n1y c1y x1xd) (h1z : Wd w a1z n1z c1z x1zn) (h1t : Wd w a1t n1t c1t x1zd) (h2x : Wd w a2x n2x c2x x2xn) (h2y : Wd w a2y n2y c2y x2xd) (h2z : Wd w a2z n2z c2z x2zn) (h2t : Wd w a2t n2t c2t x2zd) (ht : Tab w) (p0 p1 u0 u1 al ah bl bh pp qq : Rat) (ii jj : Int) (HP0 : Hid (madeQ s1x s1y x1xn x1xd 3 = p0)) (HP1 : Hid (madeQ s1z s1t x1zn x1zd 3 = p1)) (HU0 : Hid (madeQ s2x s2y x2xn x2xd 3 = u0)) (HU1 : Hid (madeQ s2z s2t x2zn x2zd 3 = u1)) (HA : Hid (leastR p0 [p1] = al ∧ greatR p0 [p1] = ah)) (HB : Hid (leastR u0 [u1] = bl ∧ greatR u0 [u1] = bh)) (HI : Hid (0 ≤ i3 ∧ i3 % 9 = ii ∧ innerQ al ah ii = pp)) (HJ : Hid (0 ≤ j3 ∧ j3 % 9 = jj ∧ innerQ bl bh jj = qq)) (HSC : Hid ((decide (leastR (al * qq) [ah * qq] = leastR (al * qq) [al * qq, ah * qq, ah * qq]) && decide (greatR (al * qq) [ah * qq] = greatR (al * qq) [al * qq, ah * qq, ah * qq])) = true)) (HF : Hid (hasQ (al + bl) (ah + bh) (pp + qq) = true ∧ hasQ (al - bh) (ah - bl) (pp - qq) = true ∧ hasQ (leastR (al * bl) [al * bh, ah * bl, ah * bh]) (greatR (al * bl) [al * bh, ah * bl, ah * bh]) (pp * qq) = true ∧ hasQ (leastR (al * qq) [ah * qq]) (greatR (al * qq) [ah * qq]) (pp * qq) = true ∧ hasQ al ah pp = true)) :
    Calls Tryz.prog 11 #[.agg #[.bool s1x, .slice a1x n1x c1x, .bool s1y, .slice a1y n1y c1y, .bool s1z, .slice a1z n1z c1z, .bool s1t, .slice a1t n1t c1t], .agg #[.bool s2x, .slice a2x n2x c2x, .bool s2y, .slice a2y n2y c2y, .bool s2z, .slice a2z n2z c2z, .bool s2t, .slice a2t n2t c2t], .agg #[.int .u8 i3, .int .u8 j3]] w (Ret w (IsV (.bool true))) := by
  obtain ⟨W, hW, S, cB0, cB1⟩ : ∃ W, W = ((w.alloc (.cells #[.bool s1x, .slice a1x n1x c1x, .bool s1y, .slice a1y n1y c1y, .bool s1z, .slice a1z n1z c1z, .bool s1t, .slice a1t n1t c1t] 66)).alloc (.cells #[.bool s2x, .slice a2x n2x c2x, .bool s2y, .slice a2y n2y c2y, .bool s2z, .slice a2z n2z c2z, .bool s2t, .slice a2t n2t c2t] 66)).alloc (.cells #[.int .u8 i3, .int .u8 j3] 72) ∧ Sto w W [((w.heap.size + 1, 3), IsR s2t x2zd), ((w.heap.size + 1, 2), IsR s2z x2zn), ((w.heap.size + 1, 1), IsR s2y x2xd), ((w.heap.size + 1, 0), IsR s2x x2xn), ((w.heap.size, 3), IsR s1t x1zd), ((w.heap.size, 2), IsR s1z x1zn), ((w.heap.size, 1), IsR s1y x1xd), ((w.heap.size, 0), IsR s1x x1xn)] ∧ World.cell? W ⟨w.heap.size + 1 + 1, 0, none⟩ = some (.int .u8 i3) ∧ World.cell? W ⟨w.heap.size + 1 + 1, 1, none⟩ = some (.int .u8 j3) := ⟨_, rfl, ((((Sto.start w).new4 (w.heap.size) (by simp) s1x s1y s1z s1t a1x a1y a1z a1t n1x c1x n1y c1y n1z c1z n1t c1t 66 (IsR s1x x1xn) (IsR s1y x1xd) (IsR s1z x1zn) (IsR s1t x1zd) (IsR.gstb _ _) (⟨_, _, _, rfl, h1x⟩) (IsR.gstb _ _) (⟨_, _, _, rfl, h1y⟩) (IsR.gstb _ _) (⟨_, _, _, rfl, h1z⟩) (IsR.gstb _ _) (⟨_, _, _, rfl, h1t⟩)).new4 (w.heap.size + 1) (by simp) s2x s2y s2z s2t a2x a2y a2z a2t n2x c2x n2y c2y n2z c2z n2t c2t 66 (IsR s2x x2xn) (IsR s2y x2xd) (IsR s2z x2zn) (IsR s2t x2zd) (IsR.gstb _ _) (⟨_, _, _, rfl, (h2x.ext ((Ext.refl _).alloc _))⟩) (IsR.gstb _ _) (⟨_, _, _, rfl, (h2y.ext ((Ext.refl _).alloc _))⟩) (IsR.gstb _ _) (⟨_, _, _, rfl, (h2z.ext ((Ext.refl _).alloc _))⟩) (IsR.gstb _ _) (⟨_, _, _, rfl, (h2t.ext ((Ext.refl _).alloc _))⟩)).mono ((Ext.refl _).alloc _)), cell_newAt _ _ (by simp) _ _ _ _ rfl, cell_newAt _ _ (by simp) _ _ _ _ rfl⟩
  clear h1x h1y h1z h1t h2x h2y h2z h2t
  go_enter Tryz.func11, Tryz.ntmps11
  go_upto_region 1 with (fail)
  rw [← hW]
  clear hW
  refine rgs 2 [some 16, some 7] [IsV (.bool true), IsV (.bool true)] [] ?_ ?_
  · refine Rc (cl0 (en Tryz.func12)  (fun w' hE => examplesQ_f _ (ht.ext (S.ext.trans hE)))) ?_
    refine Rc (mv (Od.lc 0 16)) ?_
    exact RgAll.nil
  intro v W1 e1 hΦ _
  replace S := S.mono e1
  replace cB0 := e1.cell cB0
  replace cB1 := e1.cell cB1
  have v1 : v 1 = .bool true := hΦ 1 (by decide)
  simp only [layL, Act.put, List.setIfInBounds_toArray, List.set_cons_zero, List.set_cons_succ, Nat.reduceAdd]
  rw [v1]
  clear v1 hΦ e1
  refine wpList_nil ?_
  go_upto_region 2 with (fail)
  refine rgs 2 [some 17, some 18] [IsV (.bool true), IsV (.bool false)] [] ?_ ?_
  · refine Rc (mv (Od.lit 7)) ?_
    refine Rc (nt (Od.loc 0 17)) ?_
    exact RgAll.nil
  intro v W2 e1 hΦ _
  replace S := S.mono e1
  replace cB0 := e1.cell cB0
  replace cB1 := e1.cell cB1
  have v1 : v 1 = .bool false := hΦ 1 (by decide)
  simp only [layL, Act.put, List.setIfInBounds_toArray, List.set_cons_zero, List.set_cons_succ, Nat.reduceAdd]
  rw [v1]
  clear v1 hΦ e1
  refine wpList_nil ?_
  go_upto_region 4 with (fail)
  have hl := hid S.lt; have hw := S.ext.size
  refine rgn 18 [some 19, some 20, some 21, some 22, some 23, some 24, some 25, some 26, some 27, some 28, some 29, some 30, some 31, some 32, some 8, some 9, none, none] [IsV (.pointer (some ⟨w.heap.size, 0, none⟩)), IsQ (IsR s1x x1xn) (IsR s1y x1xd), IsQ (IsI 5 p0.num) (IsI 5 ((p0.den : Int))), IsV (.pointer (some ⟨w.heap.size, 4, none⟩)), IsQ (IsR s1z x1zn) (IsR s1t x1zd), IsQ (IsI 5 p1.num) (IsI 5 ((p1.den : Int))), IsJ (IsI 5 al.num) (IsI 5 ((al.den : Int))) (IsI 5 ah.num) (IsI 5 ((ah.den : Int))), IsV (.pointer (some ⟨w.heap.size + 1, 0, none⟩)), IsQ (IsR s2x x2xn) (IsR s2y x2xd), IsQ (IsI 5 u0.num) (IsI 5 ((u0.den : Int))), IsV (.pointer (some ⟨w.heap.size + 1, 4, none⟩)), IsQ (IsR s2z x2zn) (IsR s2t x2zd), IsQ (IsI 5 u1.num) (IsI 5 ((u1.den : Int))), IsJ (IsI 5 bl.num) (IsI 5 ((bl.den : Int))) (IsI 5 bh.num) (IsI 5 ((bh.den : Int))), IsNw W2 4, IsNw W2 4, TT, TT] [14, 15] [none, none, none, none, none, none, none, none, none, none, none, none, none, none, none, none, some (14, [IsI 5 al.num, IsI 5 ((al.den : Int)), IsI 5 ah.num, IsI 5 ((ah.den : Int))]), some (15, [IsI 5 bl.num, IsI 5 ((bl.den : Int)), IsI 5 bh.num, IsI 5 ((bh.den : Int))])] [none, none, none, none, none, none, none, none, none, none, none, none, none, none, none, none, some 14, some 15] 0 ?_ ?_
  · refine RcK (ix (ia_P2_0 (w.heap.size) 0) (Od.lit 3) Od.con) ?_
    refine RcK (ldQ S 7 6 (w.heap.size) 0 (Od.lc 0 19) ld_RawQ rfl rfl) ?_
    refine RcK (cl2 (en Tryz.func13) (Od.lc (Φ := IsQ (IsR s1x x1xn) (IsR s1y x1xd)) 1 20) Od.con (fun x0 x1 w' hE d0 d1 => by { obtain rfl : x1 = .int .i64 3 := d1; exact Calls.mono (rqMade_f d0 3 (by decide)) fun _ _ h => h.ratz HP0.out (Nat.le_refl _) })) ?_
    refine RcK (ix (ia_P2_1 (w.heap.size) 0) (Od.lit 3) Od.con) ?_
    refine RcK (ldQ S 5 4 (w.heap.size) 2 (Od.lc 3 22) ld_RawQ rfl rfl) ?_
    refine RcK (cl2 (en Tryz.func13) (Od.lc (Φ := IsQ (IsR s1z x1zn) (IsR s1t x1zd)) 4 23) Od.con (fun x0 x1 w' hE d0 d1 => by { obtain rfl : x1 = .int .i64 3 := d1; exact Calls.mono (rqMade_f d0 3 (by decide)) fun _ _ h => h.ratz HP1.out (Nat.le_refl _) })) ?_
    refine RcK (cl2 (en Tryz.func56) (Od.lc (Φ := IsQ (IsI 5 p0.num) (IsI 5 ((p0.den : Int)))) 2 21) (Od.lc (Φ := IsQ (IsI 5 p1.num) (IsI 5 ((p1.den : Int)))) 5 24) (fun x0 x1 w' hE d0 d1 => Calls.mono (rqSpan_f d0 d1 (by decide)) fun _ _ h => h.iv HA.out.1 HA.out.2)) ?_
    refine RcK (ix (ia_P2_0 (w.heap.size + 1) 0) (Od.lit 4) Od.con) ?_
    refine RcK (ldQ S 3 2 (w.heap.size + 1) 0 (Od.lc 7 26) ld_RawQ rfl rfl) ?_
    refine RcK (cl2 (en Tryz.func13) (Od.lc (Φ := IsQ (IsR s2x x2xn) (IsR s2y x2xd)) 8 27) Od.con (fun x0 x1 w' hE d0 d1 => by { obtain rfl : x1 = .int .i64 3 := d1; exact Calls.mono (rqMade_f d0 3 (by decide)) fun _ _ h => h.ratz HU0.out (Nat.le_refl _) })) ?_
    refine RcK (ix (ia_P2_1 (w.heap.size + 1) 0) (Od.lit 4) Od.con) ?_
    refine RcK (ldQ S 1 0 (w.heap.size + 1) 2 (Od.lc 10 29) ld_RawQ rfl rfl) ?_
    refine RcK (cl2 (en Tryz.func13) (Od.lc (Φ := IsQ (IsR s2z x2zn) (IsR s2t x2zd)) 11 30) Od.con (fun x0 x1 w' hE d0 d1 => by { obtain rfl : x1 = .int .i64 3 := d1; exact Calls.mono (rqMade_f d0 3 (by decide)) fun _ _ h => h.ratz HU1.out (Nat.le_refl _) })) ?_
    refine RcK (cl2 (en Tryz.func56) (Od.lc (Φ := IsQ (IsI 5 u0.num) (IsI 5 ((u0.den : Int)))) 9 28) (Od.lc (Φ := IsQ (IsI 5 u1.num) (IsI 5 ((u1.den : Int)))) 12 31) (fun x0 x1 w' hE d0 d1 => Calls.mono (rqSpan_f d0 d1 (by decide)) fun _ _ h => h.iv HB.out.1 HB.out.2)) ?_
    refine RcK (alN al_Iv) ?_
    refine RcK (alN al_Iv) ?_
    refine RcS 14 (sJ st_Iv (Od.lc (Φ := IsJ (IsI 5 al.num) (IsI 5 ((al.den : Int))) (IsI 5 ah.num) (IsI 5 ((ah.den : Int)))) 6 25) (IsI.gstb _ _) (IsI.gstb _ _) (IsI.gstb _ _) (IsI.gstb _ _)) ?_
    refine RcS 15 (sJ st_Iv (Od.lc (Φ := IsJ (IsI 5 bl.num) (IsI 5 ((bl.den : Int))) (IsI 5 bh.num) (IsI 5 ((bh.den : Int)))) 13 32) (IsI.gstb _ _) (IsI.gstb _ _) (IsI.gstb _ _) (IsI.gstb _ _)) ?_
    exact RgAllN.nil
  intro v W3 e1 hΦ hS hne
  replace S := S.mono e1
  replace cB0 := e1.cell cB0
  replace cB1 := e1.cell cB1
  obtain ⟨g8, v14, q1, S2⟩ := S.addJ (hΦ 14 (by decide) rfl) (hS 16 (by decide) _ _ rfl) hw (IsI.gstb _ _) (IsI.gstb _ _) (IsI.gstb _ _) (IsI.gstb _ _)
  replace S := S2 (ApartO.old hl.out q1); clear S2
  obtain ⟨g9, v15, q2, S2⟩ := S.addJ (hΦ 15 (by decide) rfl) (hS 17 (by decide) _ _ rfl) hw (IsI.gstb _ _) (IsI.gstb _ _) (IsI.gstb _ _) (IsI.gstb _ _)
  replace S := S2 (ApartO.cons (fun h => hne 14 15 (by decide) (by decide) (by decide) (by decide) (by decide) rfl rfl (by rw [v14, v15, h])) (ApartO.cons (fun h => hne 14 15 (by decide) (by decide) (by decide) (by decide) (by decide) rfl rfl (by rw [v14, v15, h])) (ApartO.cons (fun h => hne 14 15 (by decide) (by decide) (by decide) (by decide) (by decide) rfl rfl (by rw [v14, v15, h])) (ApartO.cons (fun h => hne 14 15 (by decide) (by decide) (by decide) (by decide) (by decide) rfl rfl (by rw [v14, v15, h])) (ApartO.old hl.out q2))))); clear S2
  simp only [layL, Act.put, List.setIfInBounds_toArray, List.set_cons_zero, List.set_cons_succ, Nat.reduceAdd]
  rw [v14, v15]
  clear hl hw hne v14 v15 hΦ hS e1
  refine wpAny_done (by kernel_rfl) ?_ _
  go_upto_region 5 with (fail)
  have hl := hid S.lt; have hw := S.ext.size
  refine rgn 12 [some 33, some 34, some 35, some 36, some 37, some 38, some 39, some 40, some 10, some 11, none, none] [IsJ (IsI 5 al.num) (IsI 5 ((al.den : Int))) (IsI 5 ah.num) (IsI 5 ((ah.den : Int))), IsV (.pointer (some ⟨w.heap.size + 1 + 1, 0, none⟩)), IsV (.int .u8 i3), IsQ (IsI 19 pp.num) (IsI 19 ((pp.den : Int))), IsJ (IsI 5 bl.num) (IsI 5 ((bl.den : Int))) (IsI 5 bh.num) (IsI 5 ((bh.den : Int))), IsV (.pointer (some ⟨w.heap.size + 1 + 1, 1, none⟩)), IsV (.int .u8 j3), IsQ (IsI 19 qq.num) (IsI 19 ((qq.den : Int))), IsNw W3 2, IsNw W3 2, TT, TT] [8, 9] [none, none, none, none, none, none, none, none, none, none, some (8, [IsI 19 pp.num, IsI 19 ((pp.den : Int))]), some (9, [IsI 19 qq.num, IsI 19 ((qq.den : Int))])] [none, none, none, none, none, none, none, none, none, none, some 8, some 9] 0 ?_ ?_
  · refine RcK (ldJ S 7 6 5 4 (g8) 0 (Od.lit 8) ld_Iv rfl rfl rfl rfl) ?_
    refine RcK (ix (ia_B2_0 (w.heap.size + 1 + 1)) (Od.lit 5) Od.con) ?_
    refine RcK (ldC cB0 ld_u8 (Od.lc 1 34)) ?_
    refine RcK (cl2 (en Tryz.func61) (Od.lc (Φ := IsJ (IsI 5 al.num) (IsI 5 ((al.den : Int))) (IsI 5 ah.num) (IsI 5 ((ah.den : Int)))) 0 33) (Od.lc (Φ := IsV (.int .u8 i3)) 2 35) (fun x0 x1 w' hE d0 d1 => by { obtain rfl : x1 = .int .u8 i3 := d1; exact Calls.mono (inner_f d0 (by decide) HI.out.1 HI.out.2.1) fun _ _ h => h.ratz HI.out.2.2 (Nat.le_refl _) })) ?_
    refine RcK (ldJ S 3 2 1 0 (g9) 0 (Od.lit 9) ld_Iv rfl rfl rfl rfl) ?_
    refine RcK (ix (ia_B2_1 (w.heap.size + 1 + 1)) (Od.lit 5) Od.con) ?_
    refine RcK (ldC cB1 ld_u8 (Od.lc 5 38)) ?_
    refine RcK (cl2 (en Tryz.func61) (Od.lc (Φ := IsJ (IsI 5 bl.num) (IsI 5 ((bl.den : Int))) (IsI 5 bh.num) (IsI 5 ((bh.den : Int)))) 4 37) (Od.lc (Φ := IsV (.int .u8 j3)) 6 39) (fun x0 x1 w' hE d0 d1 => by { obtain rfl : x1 = .int .u8 j3 := d1; exact Calls.mono (inner_f d0 (by decide) HJ.out.1 HJ.out.2.1) fun _ _ h => h.ratz HJ.out.2.2 (Nat.le_refl _) })) ?_
    refine RcK (alN al_Rat) ?_
    refine RcK (alN al_Rat) ?_
    refine RcS 8 (sQ st_Rat (Od.lc (Φ := IsQ (IsI 19 pp.num) (IsI 19 ((pp.den : Int)))) 3 36) (IsI.gstb _ _) (IsI.gstb _ _)) ?_
    refine RcS 9 (sQ st_Rat (Od.lc (Φ := IsQ (IsI 19 qq.num) (IsI 19 ((qq.den : Int)))) 7 40) (IsI.gstb _ _) (IsI.gstb _ _)) ?_
    exact RgAllN.nil
  intro v W4 e1 hΦ hS hne
  replace S := S.mono e1
  replace cB0 := e1.cell cB0
  replace cB1 := e1.cell cB1
  obtain ⟨g10, v8, q3, S2⟩ := S.addQ (hΦ 8 (by decide) rfl) (hS 10 (by decide) _ _ rfl) hw (IsI.gstb _ _) (IsI.gstb _ _)
  replace S := S2 (ApartO.old hl.out q3); clear S2
  obtain ⟨g11, v9, q4, S2⟩ := S.addQ (hΦ 9 (by decide) rfl) (hS 11 (by decide) _ _ rfl) hw (IsI.gstb _ _) (IsI.gstb _ _)
  replace S := S2 (ApartO.cons (fun h => hne 8 9 (by decide) (by decide) (by decide) (by decide) (by decide) rfl rfl (by rw [v8, v9, h])) (ApartO.cons (fun h => hne 8 9 (by decide) (by decide) (by decide) (by decide) (by decide) rfl rfl (by rw [v8, v9, h])) (ApartO.old hl.out q4))); clear S2
  simp only [layL, Act.put, List.setIfInBounds_toArray, List.set_cons_zero, List.set_cons_succ, Nat.reduceAdd]
  rw [v8, v9]
  clear hl hw hne v8 v9 hΦ hS e1
  refine wpAny_done (by kernel_rfl) ?_ _
  clear cB0 cB1
  go_upto_region 6 with (fail)
  have hl := hid S.lt; have hw := S.ext.size
  refine rgn 20 [some 41, some 42, some 43, some 44, some 45, some 46, some 47, some 48, some 49, some 50, some 51, some 52, some 12, some 13, some 14, some 15, none, none, none, none] [IsJ (IsI 5 al.num) (IsI 5 ((al.den : Int))) (IsI 5 ah.num) (IsI 5 ((ah.den : Int))), IsJ (IsI 5 bl.num) (IsI 5 ((bl.den : Int))) (IsI 5 bh.num) (IsI 5 ((bh.den : Int))), IsJ (IsI 11 ((al + bl).num)) (IsI 11 (((al + bl).den : Int))) (IsI 11 ((ah + bh).num)) (IsI 11 (((ah + bh).den : Int))), IsJ (IsI 5 al.num) (IsI 5 ((al.den : Int))) (IsI 5 ah.num) (IsI 5 ((ah.den : Int))), IsJ (IsI 5 bl.num) (IsI 5 ((bl.den : Int))) (IsI 5 bh.num) (IsI 5 ((bh.den : Int))), IsJ (IsI 11 ((al - bh).num)) (IsI 11 (((al - bh).den : Int))) (IsI 11 ((ah - bl).num)) (IsI 11 (((ah - bl).den : Int))), IsJ (IsI 5 al.num) (IsI 5 ((al.den : Int))) (IsI 5 ah.num) (IsI 5 ((ah.den : Int))), IsJ (IsI 5 bl.num) (IsI 5 ((bl.den : Int))) (IsI 5 bh.num) (IsI 5 ((bh.den : Int))), IsJ (IsI 10 ((leastR (al * bl) [al * bh, ah * bl, ah * bh]).num)) (IsI 10 (((leastR (al * bl) [al * bh, ah * bl, ah * bh]).den : Int))) (IsI 10 ((greatR (al * bl) [al * bh, ah * bl, ah * bh]).num)) (IsI 10 (((greatR (al * bl) [al * bh, ah * bl, ah * bh]).den : Int))), IsJ (IsI 5 al.num) (IsI 5 ((al.den : Int))) (IsI 5 ah.num) (IsI 5 ((ah.den : Int))), IsQ (IsI 19 qq.num) (IsI 19 ((qq.den : Int))), IsJ (IsI 24 ((leastR (al * qq) [ah * qq]).num)) (IsI 24 (((leastR (al * qq) [ah * qq]).den : Int))) (IsI 24 ((greatR (al * qq) [ah * qq]).num)) (IsI 24 (((greatR (al * qq) [ah * qq]).den : Int))), IsNw W4 4, IsNw W4 4, IsNw W4 4, IsNw W4 4, TT, TT, TT, TT] [12, 13, 14, 15] [none, none, none, none, none, none, none, none, none, none, none, none, none, none, none, none, some (12, [IsI 11 ((al + bl).num), IsI 11 (((al + bl).den : Int)), IsI 11 ((ah + bh).num), IsI 11 (((ah + bh).den : Int))]), some (13, [IsI 11 ((al - bh).num), IsI 11 (((al - bh).den : Int)), IsI 11 ((ah - bl).num), IsI 11 (((ah - bl).den : Int))]), some (14, [IsI 10 ((leastR (al * bl) [al * bh, ah * bl, ah * bh]).num), IsI 10 (((leastR (al * bl) [al * bh, ah * bl, ah * bh]).den : Int)), IsI 10 ((greatR (al * bl) [al * bh, ah * bl, ah * bh]).num), IsI 10 (((greatR (al * bl) [al * bh, ah * bl, ah * bh]).den : Int))]), some (15, [IsI 24 ((leastR (al * qq) [ah * qq]).num), IsI 24 (((leastR (al * qq) [ah * qq]).den : Int)), IsI 24 ((greatR (al * qq) [ah * qq]).num), IsI 24 (((greatR (al * qq) [ah * qq]).den : Int))])] [none, none, none, none, none, none, none, none, none, none, none, none, none, none, none, none, some 12, some 13, some 14, some 15] 0 ?_ ?_
  · refine RcK (ldJ S 11 10 9 8 (g8) 0 (Od.lit 8) ld_Iv rfl rfl rfl rfl) ?_
    refine RcK (ldJ S 7 6 5 4 (g9) 0 (Od.lit 9) ld_Iv rfl rfl rfl rfl) ?_
    refine RcK (cl2 (en Tryz.func62) (Od.lc (Φ := IsJ (IsI 5 al.num) (IsI 5 ((al.den : Int))) (IsI 5 ah.num) (IsI 5 ((ah.den : Int)))) 0 41) (Od.lc (Φ := IsJ (IsI 5 bl.num) (IsI 5 ((bl.den : Int))) (IsI 5 bh.num) (IsI 5 ((bh.den : Int)))) 1 42) (fun x0 x1 w' hE d0 d1 => qIAdd_f d0 d1 (by decide) (by decide))) ?_
    refine RcK (ldJ S 11 10 9 8 (g8) 0 (Od.lit 8) ld_Iv rfl rfl rfl rfl) ?_
    refine RcK (ldJ S 7 6 5 4 (g9) 0 (Od.lit 9) ld_Iv rfl rfl rfl rfl) ?_
    refine RcK (cl2 (en Tryz.func63) (Od.lc (Φ := IsJ (IsI 5 al.num) (IsI 5 ((al.den : Int))) (IsI 5 ah.num) (IsI 5 ((ah.den : Int)))) 3 44) (Od.lc (Φ := IsJ (IsI 5 bl.num) (IsI 5 ((bl.den : Int))) (IsI 5 bh.num) (IsI 5 ((bh.den : Int)))) 4 45) (fun x0 x1 w' hE d0 d1 => qISub_f d0 d1 (by decide) (by decide))) ?_
    refine RcK (ldJ S 11 10 9 8 (g8) 0 (Od.lit 8) ld_Iv rfl rfl rfl rfl) ?_
    refine RcK (ldJ S 7 6 5 4 (g9) 0 (Od.lit 9) ld_Iv rfl rfl rfl rfl) ?_
    refine RcK (cl2 (en Tryz.func64) (Od.lc (Φ := IsJ (IsI 5 al.num) (IsI 5 ((al.den : Int))) (IsI 5 ah.num) (IsI 5 ((ah.den : Int)))) 6 47) (Od.lc (Φ := IsJ (IsI 5 bl.num) (IsI 5 ((bl.den : Int))) (IsI 5 bh.num) (IsI 5 ((bh.den : Int)))) 7 48) (fun x0 x1 w' hE d0 d1 => qIMul_f d0 d1 (by decide))) ?_
    refine RcK (ldJ S 11 10 9 8 (g8) 0 (Od.lit 8) ld_Iv rfl rfl rfl rfl) ?_
    refine RcK (ldQ S 1 0 (g11) 0 (Od.lit 11) ld_Rat rfl rfl) ?_
    refine RcK (cl2 (en Tryz.func65) (Od.lc (Φ := IsJ (IsI 5 al.num) (IsI 5 ((al.den : Int))) (IsI 5 ah.num) (IsI 5 ((ah.den : Int)))) 9 50) (Od.lc (Φ := IsQ (IsI 19 qq.num) (IsI 19 ((qq.den : Int)))) 10 51) (fun x0 x1 w' hE d0 d1 => qScale_f d0 d1 (by decide))) ?_
    refine RcK (alN al_Iv) ?_
    refine RcK (alN al_Iv) ?_
    refine RcK (alN al_Iv) ?_
    refine RcK (alN al_Iv) ?_
    refine RcS 12 (sJ st_Iv (Od.lc (Φ := IsJ (IsI 11 ((al + bl).num)) (IsI 11 (((al + bl).den : Int))) (IsI 11 ((ah + bh).num)) (IsI 11 (((ah + bh).den : Int)))) 2 43) (IsI.gstb _ _) (IsI.gstb _ _) (IsI.gstb _ _) (IsI.gstb _ _)) ?_
    refine RcS 13 (sJ st_Iv (Od.lc (Φ := IsJ (IsI 11 ((al - bh).num)) (IsI 11 (((al - bh).den : Int))) (IsI 11 ((ah - bl).num)) (IsI 11 (((ah - bl).den : Int)))) 5 46) (IsI.gstb _ _) (IsI.gstb _ _) (IsI.gstb _ _) (IsI.gstb _ _)) ?_
    refine RcS 14 (sJ st_Iv (Od.lc (Φ := IsJ (IsI 10 ((leastR (al * bl) [al * bh, ah * bl, ah * bh]).num)) (IsI 10 (((leastR (al * bl) [al * bh, ah * bl, ah * bh]).den : Int))) (IsI 10 ((greatR (al * bl) [al * bh, ah * bl, ah * bh]).num)) (IsI 10 (((greatR (al * bl) [al * bh, ah * bl, ah * bh]).den : Int)))) 8 49) (IsI.gstb _ _) (IsI.gstb _ _) (IsI.gstb _ _) (IsI.gstb _ _)) ?_
    refine RcS 15 (sJ st_Iv (Od.lc (Φ := IsJ (IsI 24 ((leastR (al * qq) [ah * qq]).num)) (IsI 24 (((leastR (al * qq) [ah * qq]).den : Int))) (IsI 24 ((greatR (al * qq) [ah * qq]).num)) (IsI 24 (((greatR (al * qq) [ah * qq]).den : Int)))) 11 52) (IsI.gstb _ _) (IsI.gstb _ _) (IsI.gstb _ _) (IsI.gstb _ _)) ?_
    exact RgAllN.nil
  intro v W5 e1 hΦ hS hne
  replace S := S.mono e1
  obtain ⟨g12, v12, q5, S2⟩ := S.addJ (hΦ 12 (by decide) rfl) (hS 16 (by decide) _ _ rfl) hw (IsI.gstb _ _) (IsI.gstb _ _) (IsI.gstb _ _) (IsI.gstb _ _)
  replace S := S2 (ApartO.old hl.out q5); clear S2
  obtain ⟨g13, v13, q6, S2⟩ := S.addJ (hΦ 13 (by decide) rfl) (hS 17 (by decide) _ _ rfl) hw (IsI.gstb _ _) (IsI.gstb _ _) (IsI.gstb _ _) (IsI.gstb _ _)
  replace S := S2 (ApartO.cons (fun h => hne 12 13 (by decide) (by decide) (by decide) (by decide) (by decide) rfl rfl (by rw [v12, v13, h])) (ApartO.cons (fun h => hne 12 13 (by decide) (by decide) (by decide) (by decide) (by decide) rfl rfl (by rw [v12, v13, h])) (ApartO.cons (fun h => hne 12 13 (by decide) (by decide) (by decide) (by decide) (by decide) rfl rfl (by rw [v12, v13, h])) (ApartO.cons (fun h => hne 12 13 (by decide) (by decide) (by decide) (by decide) (by decide) rfl rfl (by rw [v12, v13, h])) (ApartO.old hl.out q6))))); clear S2
  obtain ⟨g14, v14, q7, S2⟩ := S.addJ (hΦ 14 (by decide) rfl) (hS 18 (by decide) _ _ rfl) hw (IsI.gstb _ _) (IsI.gstb _ _) (IsI.gstb _ _) (IsI.gstb _ _)
  replace S := S2 (ApartO.cons (fun h => hne 13 14 (by decide) (by decide) (by decide) (by decide) (by decide) rfl rfl (by rw [v13, v14, h])) (ApartO.cons (fun h => hne 13 14 (by decide) (by decide) (by decide) (by decide) (by decide) rfl rfl (by rw [v13, v14, h])) (ApartO.cons (fun h => hne 13 14 (by decide) (by decide) (by decide) (by decide) (by decide) rfl rfl (by rw [v13, v14, h])) (ApartO.cons (fun h => hne 13 14 (by decide) (by decide) (by decide) (by decide) (by decide) rfl rfl (by rw [v13, v14, h])) (ApartO.cons (fun h => hne 12 14 (by decide) (by decide) (by decide) (by decide) (by decide) rfl rfl (by rw [v12, v14, h])) (ApartO.cons (fun h => hne 12 14 (by decide) (by decide) (by decide) (by decide) (by decide) rfl rfl (by rw [v12, v14, h])) (ApartO.cons (fun h => hne 12 14 (by decide) (by decide) (by decide) (by decide) (by decide) rfl rfl (by rw [v12, v14, h])) (ApartO.cons (fun h => hne 12 14 (by decide) (by decide) (by decide) (by decide) (by decide) rfl rfl (by rw [v12, v14, h])) (ApartO.old hl.out q7))))))))); clear S2
  obtain ⟨g15, v15, q8, S2⟩ := S.addJ (hΦ 15 (by decide) rfl) (hS 19 (by decide) _ _ rfl) hw (IsI.gstb _ _) (IsI.gstb _ _) (IsI.gstb _ _) (IsI.gstb _ _)
  replace S := S2 (ApartO.cons (fun h => hne 14 15 (by decide) (by decide) (by decide) (by decide) (by decide) rfl rfl (by rw [v14, v15, h])) (ApartO.cons (fun h => hne 14 15 (by decide) (by decide) (by decide) (by decide) (by decide) rfl rfl (by rw [v14, v15, h])) (ApartO.cons (fun h => hne 14 15 (by decide) (by decide) (by decide) (by decide) (by decide) rfl rfl (by rw [v14, v15, h])) (ApartO.cons (fun h => hne 14 15 (by decide) (by decide) (by decide) (by decide) (by decide) rfl rfl (by rw [v14, v15, h])) (ApartO.cons (fun h => hne 13 15 (by decide) (by decide) (by decide) (by decide) (by decide) rfl rfl (by rw [v13, v15, h])) (ApartO.cons (fun h => hne 13 15 (by decide) (by decide) (by decide) (by decide) (by decide) rfl rfl (by rw [v13, v15, h])) (ApartO.cons (fun h => hne 13 15 (by decide) (by decide) (by decide) (by decide) (by decide) rfl rfl (by rw [v13, v15, h])) (ApartO.cons (fun h => hne 13 15 (by decide) (by decide) (by decide) (by decide) (by decide) rfl rfl (by rw [v13, v15, h])) (ApartO.cons (fun h => hne 12 15 (by decide) (by decide) (by decide) (by decide) (by decide) rfl rfl (by rw [v12, v15, h])) (ApartO.cons (fun h => hne 12 15 (by decide) (by decide) (by decide) (by decide) (by decide) rfl rfl (by rw [v12, v15, h])) (ApartO.cons (fun h => hne 12 15 (by decide) (by decide) (by decide) (by decide) (by decide) rfl rfl (by rw [v12, v15, h])) (ApartO.cons (fun h => hne 12 15 (by decide) (by decide) (by decide) (by decide) (by decide) rfl rfl (by rw [v12, v15, h])) (ApartO.old hl.out q8))))))))))))); clear S2
  simp only [layL, Act.put, List.setIfInBounds_toArray, List.set_cons_zero, List.set_cons_succ, Nat.reduceAdd]
  rw [v12, v13, v14, v15]
  clear hl hw hne v12 v13 v14 v15 hΦ hS e1
  refine wpAny_done (by kernel_rfl) ?_ _
  go_upto_region 7 with (fail)
  refine rg 32 [some 53, some 54, some 55, some 56, some 57, some 58, some 59, some 60, some 61, some 62, some 63, some 64, some 65, some 66, some 67, some 68, some 69, some 70, some 71, some 72, some 73, some 74, some 75, some 76, some 77, some 78, some 79, some 80, some 81, some 82, some 83, some 84] [IsJ (IsI 11 ((al + bl).num)) (IsI 11 (((al + bl).den : Int))) (IsI 11 ((ah + bh).num)) (IsI 11 (((ah + bh).den : Int))), IsJ (IsI 5 al.num) (IsI 5 ((al.den : Int))) (IsI 5 ah.num) (IsI 5 ((ah.den : Int))), IsJ (IsI 5 bl.num) (IsI 5 ((bl.den : Int))) (IsI 5 bh.num) (IsI 5 ((bh.den : Int))), IsJ (IsI 11 ((al + bl).num)) (IsI 11 (((al + bl).den : Int))) (IsI 11 ((ah + bh).num)) (IsI 11 (((ah + bh).den : Int))), IsV (.bool true), IsV (.bool false), IsV (.bool false), IsJ (IsI 11 ((al - bh).num)) (IsI 11 (((al - bh).den : Int))) (IsI 11 ((ah - bl).num)) (IsI 11 (((ah - bl).den : Int))), IsJ (IsI 5 al.num) (IsI 5 ((al.den : Int))) (IsI 5 ah.num) (IsI 5 ((ah.den : Int))), IsJ (IsI 5 bl.num) (IsI 5 ((bl.den : Int))) (IsI 5 bh.num) (IsI 5 ((bh.den : Int))), IsJ (IsI 11 ((al - bh).num)) (IsI 11 (((al - bh).den : Int))) (IsI 11 ((ah - bl).num)) (IsI 11 (((ah - bl).den : Int))), IsV (.bool true), IsV (.bool false), IsV (.bool false), IsV (.bool false), IsJ (IsI 10 ((leastR (al * bl) [al * bh, ah * bl, ah * bh]).num)) (IsI 10 (((leastR (al * bl) [al * bh, ah * bl, ah * bh]).den : Int))) (IsI 10 ((greatR (al * bl) [al * bh, ah * bl, ah * bh]).num)) (IsI 10 (((greatR (al * bl) [al * bh, ah * bl, ah * bh]).den : Int))), IsJ (IsI 5 al.num) (IsI 5 ((al.den : Int))) (IsI 5 ah.num) (IsI 5 ((ah.den : Int))), IsJ (IsI 5 bl.num) (IsI 5 ((bl.den : Int))) (IsI 5 bh.num) (IsI 5 ((bh.den : Int))), IsJ (IsI 10 ((leastR (al * bl) [al * bh, ah * bl, ah * bh]).num)) (IsI 10 (((leastR (al * bl) [al * bh, ah * bl, ah * bh]).den : Int))) (IsI 10 ((greatR (al * bl) [al * bh, ah * bl, ah * bh]).num)) (IsI 10 (((greatR (al * bl) [al * bh, ah * bl, ah * bh]).den : Int))), IsV (.bool true), IsV (.bool false), IsV (.bool false), IsV (.bool false), IsJ (IsI 24 ((leastR (al * qq) [ah * qq]).num)) (IsI 24 (((leastR (al * qq) [ah * qq]).den : Int))) (IsI 24 ((greatR (al * qq) [ah * qq]).num)) (IsI 24 (((greatR (al * qq) [ah * qq]).den : Int))), IsJ (IsI 5 al.num) (IsI 5 ((al.den : Int))) (IsI 5 ah.num) (IsI 5 ((ah.den : Int))), IsQ (IsI 19 qq.num) (IsI 19 ((qq.den : Int))), IsQ (IsI 19 qq.num) (IsI 19 ((qq.den : Int))), IsJ (IsI 19 qq.num) (IsI 19 ((qq.den : Int))) (IsI 19 qq.num) (IsI 19 ((qq.den : Int))), IsJ (IsI 24 ((leastR (al * qq) [al * qq, ah * qq, ah * qq]).num)) (IsI 24 (((leastR (al * qq) [al * qq, ah * qq, ah * qq]).den : Int))) (IsI 24 ((greatR (al * qq) [al * qq, ah * qq, ah * qq]).num)) (IsI 24 (((greatR (al * qq) [al * qq, ah * qq, ah * qq]).den : Int))), IsV (.bool true), IsV (.bool false), IsV (.bool false)] [] 0 ?_ ?_
  · refine Rc (ldJ S 15 14 13 12 (g12) 0 (Od.lit 12) ld_Iv rfl rfl rfl rfl) ?_
    refine Rc (ldJ S 27 26 25 24 (g8) 0 (Od.lit 8) ld_Iv rfl rfl rfl rfl) ?_
    refine Rc (ldJ S 23 22 21 20 (g9) 0 (Od.lit 9) ld_Iv rfl rfl rfl rfl) ?_
    refine Rc (cl2 (en Tryz.func66) (Od.lc (Φ := IsJ (IsI 5 al.num) (IsI 5 ((al.den : Int))) (IsI 5 ah.num) (IsI 5 ((ah.den : Int)))) 1 54) (Od.lc (Φ := IsJ (IsI 5 bl.num) (IsI 5 ((bl.den : Int))) (IsI 5 bh.num) (IsI 5 ((bh.den : Int)))) 2 55) (fun x0 x1 w' hE d0 d1 => rqIAdd_f d0 d1 (by decide) (by decide))) ?_
    refine Rc (cl2 (en Tryz.func60) (Od.lc (Φ := IsJ (IsI 11 ((al + bl).num)) (IsI 11 (((al + bl).den : Int))) (IsI 11 ((ah + bh).num)) (IsI 11 (((ah + bh).den : Int)))) 0 53) (Od.lc (Φ := IsJ (IsI 11 ((al + bl).num)) (IsI 11 (((al + bl).den : Int))) (IsI 11 ((ah + bh).num)) (IsI 11 (((ah + bh).den : Int)))) 3 56) (fun x0 x1 w' hE d0 d1 => Calls.mono (rqSameI_f d0 d1 (by decide)) fun _ _ h => RetB h (sameI_self _ _))) ?_
    refine Rc (nt (Od.loc 4 57)) ?_
    refine Rc (mv (Od.lc 5 58)) ?_
    refine RcG 6 59 false (ldJ S 11 10 9 8 (g13) 0 (Od.lit 13) ld_Iv rfl rfl rfl rfl) ?_
    refine RcG 6 59 false (ldJ S 27 26 25 24 (g8) 0 (Od.lit 8) ld_Iv rfl rfl rfl rfl) ?_
    refine RcG 6 59 false (ldJ S 23 22 21 20 (g9) 0 (Od.lit 9) ld_Iv rfl rfl rfl rfl) ?_
    refine RcG 6 59 false (cl2 (en Tryz.func67) (Od.lc (Φ := IsJ (IsI 5 al.num) (IsI 5 ((al.den : Int))) (IsI 5 ah.num) (IsI 5 ((ah.den : Int)))) 8 61) (Od.lc (Φ := IsJ (IsI 5 bl.num) (IsI 5 ((bl.den : Int))) (IsI 5 bh.num) (IsI 5 ((bh.den : Int)))) 9 62) (fun x0 x1 w' hE d0 d1 => rqISub_f d0 d1 (by decide) (by decide))) ?_
    refine RcG 6 59 false (cl2 (en Tryz.func60) (Od.lc (Φ := IsJ (IsI 11 ((al - bh).num)) (IsI 11 (((al - bh).den : Int))) (IsI 11 ((ah - bl).num)) (IsI 11 (((ah - bl).den : Int)))) 7 60) (Od.lc (Φ := IsJ (IsI 11 ((al - bh).num)) (IsI 11 (((al - bh).den : Int))) (IsI 11 ((ah - bl).num)) (IsI 11 (((ah - bl).den : Int)))) 10 63) (fun x0 x1 w' hE d0 d1 => Calls.mono (rqSameI_f d0 d1 (by decide)) fun _ _ h => RetB h (sameI_self _ _))) ?_
    refine RcG 6 59 false (nt (Od.loc 11 64)) ?_
    refine Rc (pk (Od.loc 6 59) (Od.lc 12 65)) ?_
    refine Rc (mv (Od.lc 13 66)) ?_
    refine RcG 14 67 false (ldJ S 7 6 5 4 (g14) 0 (Od.lit 14) ld_Iv rfl rfl rfl rfl) ?_
    refine RcG 14 67 false (ldJ S 27 26 25 24 (g8) 0 (Od.lit 8) ld_Iv rfl rfl rfl rfl) ?_
    refine RcG 14 67 false (ldJ S 23 22 21 20 (g9) 0 (Od.lit 9) ld_Iv rfl rfl rfl rfl) ?_
    refine RcG 14 67 false (cl2 (en Tryz.func68) (Od.lc (Φ := IsJ (IsI 5 al.num) (IsI 5 ((al.den : Int))) (IsI 5 ah.num) (IsI 5 ((ah.den : Int)))) 16 69) (Od.lc (Φ := IsJ (IsI 5 bl.num) (IsI 5 ((bl.den : Int))) (IsI 5 bh.num) (IsI 5 ((bh.den : Int)))) 17 70) (fun x0 x1 w' hE d0 d1 => rqIMul_f d0 d1 (by decide))) ?_
    refine RcG 14 67 false (cl2 (en Tryz.func60) (Od.lc (Φ := IsJ (IsI 10 ((leastR (al * bl) [al * bh, ah * bl, ah * bh]).num)) (IsI 10 (((leastR (al * bl) [al * bh, ah * bl, ah * bh]).den : Int))) (IsI 10 ((greatR (al * bl) [al * bh, ah * bl, ah * bh]).num)) (IsI 10 (((greatR (al * bl) [al * bh, ah * bl, ah * bh]).den : Int)))) 15 68) (Od.lc (Φ := IsJ (IsI 10 ((leastR (al * bl) [al * bh, ah * bl, ah * bh]).num)) (IsI 10 (((leastR (al * bl) [al * bh, ah * bl, ah * bh]).den : Int))) (IsI 10 ((greatR (al * bl) [al * bh, ah * bl, ah * bh]).num)) (IsI 10 (((greatR (al * bl) [al * bh, ah * bl, ah * bh]).den : Int)))) 18 71) (fun x0 x1 w' hE d0 d1 => Calls.mono (rqSameI_f d0 d1 (by decide)) fun _ _ h => RetB h (sameI_self _ _))) ?_
    refine RcG 14 67 false (nt (Od.loc 19 72)) ?_
    refine Rc (pk (Od.loc 14 67) (Od.lc 20 73)) ?_
    refine Rc (mv (Od.lc 21 74)) ?_
    refine RcG 22 75 false (ldJ S 3 2 1 0 (g15) 0 (Od.lit 15) ld_Iv rfl rfl rfl rfl) ?_
    refine RcG 22 75 false (ldJ S 27 26 25 24 (g8) 0 (Od.lit 8) ld_Iv rfl rfl rfl rfl) ?_
    refine RcG 22 75 false (ldQ S 17 16 (g11) 0 (Od.lit 11) ld_Rat rfl rfl) ?_
    refine RcG 22 75 false (ldQ S 17 16 (g11) 0 (Od.lit 11) ld_Rat rfl rfl) ?_
    refine RcG 22 75 false (bj (Od.loc 25 78) (Od.loc 26 79) bd_Iv) ?_
    refine RcG 22 75 false (cl2 (en Tryz.func68) (Od.lc (Φ := IsJ (IsI 5 al.num) (IsI 5 ((al.den : Int))) (IsI 5 ah.num) (IsI 5 ((ah.den : Int)))) 24 77) (Od.lc (Φ := IsJ (IsI 19 qq.num) (IsI 19 ((qq.den : Int))) (IsI 19 qq.num) (IsI 19 ((qq.den : Int)))) 27 80) (fun x0 x1 w' hE d0 d1 => rqIMul_f d0 d1 (by decide))) ?_
    refine RcG 22 75 false (cl2 (en Tryz.func60) (Od.lc (Φ := IsJ (IsI 24 ((leastR (al * qq) [ah * qq]).num)) (IsI 24 (((leastR (al * qq) [ah * qq]).den : Int))) (IsI 24 ((greatR (al * qq) [ah * qq]).num)) (IsI 24 (((greatR (al * qq) [ah * qq]).den : Int)))) 23 76) (Od.lc (Φ := IsJ (IsI 24 ((leastR (al * qq) [al * qq, ah * qq, ah * qq]).num)) (IsI 24 (((leastR (al * qq) [al * qq, ah * qq, ah * qq]).den : Int))) (IsI 24 ((greatR (al * qq) [al * qq, ah * qq, ah * qq]).num)) (IsI 24 (((greatR (al * qq) [al * qq, ah * qq, ah * qq]).den : Int)))) 28 81) (fun x0 x1 w' hE d0 d1 => Calls.mono (rqSameI_f d0 d1 (by decide)) fun _ _ h => RetB h HSC.out)) ?_
    refine RcG 22 75 false (nt (Od.loc 29 82)) ?_
    refine Rc (pk (Od.loc 22 75) (Od.lc 30 83)) ?_
    exact RgAll.nil
  intro v W6 e1 hΦ _
  replace S := S.mono e1
  have v31 : v 31 = .bool false := hΦ 31 (by decide)
  simp only [layL, Act.put, List.setIfInBounds_toArray, List.set_cons_zero, List.set_cons_succ, Nat.reduceAdd]
  rw [v31]
  clear v31 hΦ e1
  refine wpAny_done (by kernel_rfl) ?_ _
  go_upto_region 9 with (fail)
  refine rg 30 [some 85, some 86, some 87, some 88, some 89, some 90, some 91, some 92, some 93, some 94, some 95, some 96, some 97, some 98, some 99, some 100, some 101, some 102, some 103, some 104, some 105, some 106, some 107, some 108, some 109, some 110, some 111, some 112, some 113, some 114] [IsJ (IsI 11 ((al + bl).num)) (IsI 11 (((al + bl).den : Int))) (IsI 11 ((ah + bh).num)) (IsI 11 (((ah + bh).den : Int))), IsQ (IsI 19 pp.num) (IsI 19 ((pp.den : Int))), IsQ (IsI 19 qq.num) (IsI 19 ((qq.den : Int))), IsQ (IsI 39 ((pp + qq).num)) (IsI 39 (((pp + qq).den : Int))), IsV (.bool true), IsV (.bool false), IsV (.bool false), IsJ (IsI 11 ((al - bh).num)) (IsI 11 (((al - bh).den : Int))) (IsI 11 ((ah - bl).num)) (IsI 11 (((ah - bl).den : Int))), IsQ (IsI 19 pp.num) (IsI 19 ((pp.den : Int))), IsQ (IsI 19 qq.num) (IsI 19 ((qq.den : Int))), IsQ (IsI 39 ((pp - qq).num)) (IsI 39 (((pp - qq).den : Int))), IsV (.bool true), IsV (.bool false), IsV (.bool false), IsV (.bool false), IsJ (IsI 10 ((leastR (al * bl) [al * bh, ah * bl, ah * bh]).num)) (IsI 10 (((leastR (al * bl) [al * bh, ah * bl, ah * bh]).den : Int))) (IsI 10 ((greatR (al * bl) [al * bh, ah * bl, ah * bh]).num)) (IsI 10 (((greatR (al * bl) [al * bh, ah * bl, ah * bh]).den : Int))), IsQ (IsI 19 pp.num) (IsI 19 ((pp.den : Int))), IsQ (IsI 19 qq.num) (IsI 19 ((qq.den : Int))), IsQ (IsI 38 ((pp * qq).num)) (IsI 38 (((pp * qq).den : Int))), IsV (.bool true), IsV (.bool false), IsV (.bool false), IsV (.bool false), IsJ (IsI 24 ((leastR (al * qq) [ah * qq]).num)) (IsI 24 (((leastR (al * qq) [ah * qq]).den : Int))) (IsI 24 ((greatR (al * qq) [ah * qq]).num)) (IsI 24 (((greatR (al * qq) [ah * qq]).den : Int))), IsQ (IsI 19 pp.num) (IsI 19 ((pp.den : Int))), IsQ (IsI 19 qq.num) (IsI 19 ((qq.den : Int))), IsQ (IsI 38 ((pp * qq).num)) (IsI 38 (((pp * qq).den : Int))), IsV (.bool true), IsV (.bool false), IsV (.bool false)] [] 0 ?_ ?_
  · refine Rc (ldJ S 15 14 13 12 (g12) 0 (Od.lit 12) ld_Iv rfl rfl rfl rfl) ?_
    refine Rc (ldQ S 19 18 (g10) 0 (Od.lit 10) ld_Rat rfl rfl) ?_
    refine Rc (ldQ S 17 16 (g11) 0 (Od.lit 11) ld_Rat rfl rfl) ?_
    refine Rc (cl2 (en Tryz.func53) (Od.lc (Φ := IsQ (IsI 19 pp.num) (IsI 19 ((pp.den : Int)))) 1 86) (Od.lc (Φ := IsQ (IsI 19 qq.num) (IsI 19 ((qq.den : Int)))) 2 87) (fun x0 x1 w' hE d0 d1 => rqAdd_f d0 d1 (by decide) (by decide))) ?_
    refine Rc (cl2 (en Tryz.func22) (Od.lc (Φ := IsJ (IsI 11 ((al + bl).num)) (IsI 11 (((al + bl).den : Int))) (IsI 11 ((ah + bh).num)) (IsI 11 (((ah + bh).den : Int)))) 0 85) (Od.lc (Φ := IsQ (IsI 39 ((pp + qq).num)) (IsI 39 (((pp + qq).den : Int)))) 3 88) (fun x0 x1 w' hE d0 d1 => Calls.mono (rqHas_f d0 d1 (by decide)) fun _ _ h => RetB h HF.out.1)) ?_
    refine Rc (nt (Od.loc 4 89)) ?_
    refine Rc (mv (Od.lc 5 90)) ?_
    refine RcG 6 91 false (ldJ S 11 10 9 8 (g13) 0 (Od.lit 13) ld_Iv rfl rfl rfl rfl) ?_
    refine RcG 6 91 false (ldQ S 19 18 (g10) 0 (Od.lit 10) ld_Rat rfl rfl) ?_
    refine RcG 6 91 false (ldQ S 17 16 (g11) 0 (Od.lit 11) ld_Rat rfl rfl) ?_
    refine RcG 6 91 false (cl2 (en Tryz.func54) (Od.lc (Φ := IsQ (IsI 19 pp.num) (IsI 19 ((pp.den : Int)))) 8 93) (Od.lc (Φ := IsQ (IsI 19 qq.num) (IsI 19 ((qq.den : Int)))) 9 94) (fun x0 x1 w' hE d0 d1 => rqSub_f d0 d1 (by decide) (by decide))) ?_
    refine RcG 6 91 false (cl2 (en Tryz.func22) (Od.lc (Φ := IsJ (IsI 11 ((al - bh).num)) (IsI 11 (((al - bh).den : Int))) (IsI 11 ((ah - bl).num)) (IsI 11 (((ah - bl).den : Int)))) 7 92) (Od.lc (Φ := IsQ (IsI 39 ((pp - qq).num)) (IsI 39 (((pp - qq).den : Int)))) 10 95) (fun x0 x1 w' hE d0 d1 => Calls.mono (rqHas_f d0 d1 (by decide)) fun _ _ h => RetB h HF.out.2.1)) ?_
    refine RcG 6 91 false (nt (Od.loc 11 96)) ?_
    refine Rc (pk (Od.loc 6 91) (Od.lc 12 97)) ?_
    refine Rc (mv (Od.lc 13 98)) ?_
    refine RcG 14 99 false (ldJ S 7 6 5 4 (g14) 0 (Od.lit 14) ld_Iv rfl rfl rfl rfl) ?_
    refine RcG 14 99 false (ldQ S 19 18 (g10) 0 (Od.lit 10) ld_Rat rfl rfl) ?_
    refine RcG 14 99 false (ldQ S 17 16 (g11) 0 (Od.lit 11) ld_Rat rfl rfl) ?_
    refine RcG 14 99 false (cl2 (en Tryz.func26) (Od.lc (Φ := IsQ (IsI 19 pp.num) (IsI 19 ((pp.den : Int)))) 16 101) (Od.lc (Φ := IsQ (IsI 19 qq.num) (IsI 19 ((qq.den : Int)))) 17 102) (fun x0 x1 w' hE d0 d1 => rqMul_f d0 d1 (by decide) (by decide))) ?_
    refine RcG 14 99 false (cl2 (en Tryz.func22) (Od.lc (Φ := IsJ (IsI 10 ((leastR (al * bl) [al * bh, ah * bl, ah * bh]).num)) (IsI 10 (((leastR (al * bl) [al * bh, ah * bl, ah * bh]).den : Int))) (IsI 10 ((greatR (al * bl) [al * bh, ah * bl, ah * bh]).num)) (IsI 10 (((greatR (al * bl) [al * bh, ah * bl, ah * bh]).den : Int)))) 15 100) (Od.lc (Φ := IsQ (IsI 38 ((pp * qq).num)) (IsI 38 (((pp * qq).den : Int)))) 18 103) (fun x0 x1 w' hE d0 d1 => Calls.mono (rqHas_f d0 d1 (by decide)) fun _ _ h => RetB h HF.out.2.2.1)) ?_
    refine RcG 14 99 false (nt (Od.loc 19 104)) ?_
    refine Rc (pk (Od.loc 14 99) (Od.lc 20 105)) ?_
    refine Rc (mv (Od.lc 21 106)) ?_
    refine RcG 22 107 false (ldJ S 3 2 1 0 (g15) 0 (Od.lit 15) ld_Iv rfl rfl rfl rfl) ?_
    refine RcG 22 107 false (ldQ S 19 18 (g10) 0 (Od.lit 10) ld_Rat rfl rfl) ?_
    refine RcG 22 107 false (ldQ S 17 16 (g11) 0 (Od.lit 11) ld_Rat rfl rfl) ?_
    refine RcG 22 107 false (cl2 (en Tryz.func26) (Od.lc (Φ := IsQ (IsI 19 pp.num) (IsI 19 ((pp.den : Int)))) 24 109) (Od.lc (Φ := IsQ (IsI 19 qq.num) (IsI 19 ((qq.den : Int)))) 25 110) (fun x0 x1 w' hE d0 d1 => rqMul_f d0 d1 (by decide) (by decide))) ?_
    refine RcG 22 107 false (cl2 (en Tryz.func22) (Od.lc (Φ := IsJ (IsI 24 ((leastR (al * qq) [ah * qq]).num)) (IsI 24 (((leastR (al * qq) [ah * qq]).den : Int))) (IsI 24 ((greatR (al * qq) [ah * qq]).num)) (IsI 24 (((greatR (al * qq) [ah * qq]).den : Int)))) 23 108) (Od.lc (Φ := IsQ (IsI 38 ((pp * qq).num)) (IsI 38 (((pp * qq).den : Int)))) 26 111) (fun x0 x1 w' hE d0 d1 => Calls.mono (rqHas_f d0 d1 (by decide)) fun _ _ h => RetB h HF.out.2.2.2.1)) ?_
    refine RcG 22 107 false (nt (Od.loc 27 112)) ?_
    refine Rc (pk (Od.loc 22 107) (Od.lc 28 113)) ?_
    exact RgAll.nil
  intro v W7 e1 hΦ _
  replace S := S.mono e1
  have v29 : v 29 = .bool false := hΦ 29 (by decide)
  simp only [layL, Act.put, List.setIfInBounds_toArray, List.set_cons_zero, List.set_cons_succ, Nat.reduceAdd]
  rw [v29]
  clear v29 hΦ e1
  refine wpAny_done (by kernel_rfl) ?_ _
  go_upto_region 11 with (fail)
  refine rg 15 [some 115, some 116, some 117, some 118, some 119, some 120, some 121, some 122, some 123, some 124, some 125, some 126, some 127, some 128, some 6] [IsQ (IsI 19 pp.num) (IsI 19 ((pp.den : Int))), IsJ (IsI 19 pp.num) (IsI 19 ((pp.den : Int))) (IsI 19 pp.num) (IsI 19 ((pp.den : Int))), IsQ (IsI 19 pp.num) (IsI 19 ((pp.den : Int))), IsQ (IsI 19 pp.num) (IsI 19 ((pp.den : Int))), IsJ (IsI 19 pp.num) (IsI 19 ((pp.den : Int))) (IsI 19 pp.num) (IsI 19 ((pp.den : Int))), IsV (.bool true), IsV (.bool true), IsJ (IsI 5 al.num) (IsI 5 ((al.den : Int))) (IsI 5 ah.num) (IsI 5 ((ah.den : Int))), IsQ (IsI 19 pp.num) (IsI 19 ((pp.den : Int))), IsV (.bool true), IsV (.bool true), IsV (.bool true), IsV (.bool true), IsV (.bool true), IsV (.bool true)] [] 0 ?_ ?_
  · refine Rc (ldQ S 19 18 (g10) 0 (Od.lit 10) ld_Rat rfl rfl) ?_
    refine Rc (cl1 (en Tryz.func69) (Od.lc (Φ := IsQ (IsI 19 pp.num) (IsI 19 ((pp.den : Int)))) 0 115) (fun x0 w' hE d0 => qExactly_f d0)) ?_
    refine Rc (ldQ S 19 18 (g10) 0 (Od.lit 10) ld_Rat rfl rfl) ?_
    refine Rc (ldQ S 19 18 (g10) 0 (Od.lit 10) ld_Rat rfl rfl) ?_
    refine Rc (bj (Od.loc 2 117) (Od.loc 3 118) bd_Iv) ?_
    refine Rc (cl2 (en Tryz.func60) (Od.lc (Φ := IsJ (IsI 19 pp.num) (IsI 19 ((pp.den : Int))) (IsI 19 pp.num) (IsI 19 ((pp.den : Int)))) 1 116) (Od.lc (Φ := IsJ (IsI 19 pp.num) (IsI 19 ((pp.den : Int))) (IsI 19 pp.num) (IsI 19 ((pp.den : Int)))) 4 119) (fun x0 x1 w' hE d0 d1 => Calls.mono (rqSameI_f d0 d1 (by decide)) fun _ _ h => RetB h (sameI_self _ _))) ?_
    refine Rc (mv (Od.lc 5 120)) ?_
    refine RcG 6 121 true (ldJ S 27 26 25 24 (g8) 0 (Od.lit 8) ld_Iv rfl rfl rfl rfl) ?_
    refine RcG 6 121 true (ldQ S 19 18 (g10) 0 (Od.lit 10) ld_Rat rfl rfl) ?_
    refine RcG 6 121 true (cl2 (en Tryz.func58) (Od.lc (Φ := IsJ (IsI 5 al.num) (IsI 5 ((al.den : Int))) (IsI 5 ah.num) (IsI 5 ((ah.den : Int)))) 7 122) (Od.lc (Φ := IsQ (IsI 19 pp.num) (IsI 19 ((pp.den : Int)))) 8 123) (fun x0 x1 w' hE d0 d1 => Calls.mono (qHas_f d0 d1 (by decide)) fun _ _ h => RetB h HF.out.2.2.2.2)) ?_
    refine Rc (pk (Od.loc 6 121) (Od.lc 9 124)) ?_
    refine Rc (mv (Od.lc 10 125)) ?_
    refine RcG 11 126 true (mv (Od.lit 7)) ?_
    refine Rc (pk (Od.loc 11 126) (Od.lc 12 127)) ?_
    refine Rc (mv (Od.lc 13 128)) ?_
    exact RgAll.nil
  intro v W8 e1 hΦ _
  replace S := S.mono e1
  have v14 : v 14 = .bool true := hΦ 14 (by decide)
  simp only [layL, Act.put, List.setIfInBounds_toArray, List.set_cons_zero, List.set_cons_succ, Nat.reduceAdd]
  rw [v14]
  clear v14 hΦ e1
  refine wpAny_done (by kernel_rfl) ?_ _
  go_wp2_with fail
  exact bodyPost_ret (v := .bool true) (by simp [results, Tryz.results11, go_sem]) rfl (⟨_, rfl, S.ext, rfl⟩)

theorem Intervals_c (w : World) (s1x s1y s1z s1t s2x s2y s2z s2t : Bool) (a1x a1y a1z a1t a2x a2y a2z a2t : Option Addr) (n1x c1x n1y c1y n1z c1z n1t c1t n2x c2x n2y c2y n2z c2z n2t c2t : Nat) (x1xn x1xd x1zn x1zd x2xn x2xd x2zn x2zd : List Nat) (i3 j3 : Int) (h1x : Wd w a1x n1x c1x x1xn) (h1y : Wd w a1y n1y c1y x1xd) (h1z : Wd w a1z n1z c1z x1zn) (h1t : Wd w a1t n1t c1t x1zd) (h2x : Wd w a2x n2x c2x x2xn) (h2y : Wd w a2y n2y c2y x2xd) (h2z : Wd w a2z n2z c2z x2zn) (h2t : Wd w a2t n2t c2t x2zd) (m3 : 0 ≤ i3 ∧ i3 ≤ 255) (l3 : 0 ≤ j3 ∧ j3 ≤ 255) (ht : Tab w) :
    Calls Tryz.prog 11 #[.agg #[.bool s1x, .slice a1x n1x c1x, .bool s1y, .slice a1y n1y c1y, .bool s1z, .slice a1z n1z c1z, .bool s1t, .slice a1t n1t c1t], .agg #[.bool s2x, .slice a2x n2x c2x, .bool s2y, .slice a2y n2y c2y, .bool s2z, .slice a2z n2z c2z, .bool s2t, .slice a2t n2t c2t], .agg #[.int .u8 i3, .int .u8 j3]] w (Ret w (IsV (.bool true))) := by
  obtain ⟨p0, e0⟩ : ∃ p, madeQ s1x s1y x1xn x1xd 3 = p := ⟨_, rfl⟩
  obtain ⟨p1, e1⟩ : ∃ p, madeQ s1z s1t x1zn x1zd 3 = p := ⟨_, rfl⟩
  obtain ⟨u0, e2⟩ : ∃ p, madeQ s2x s2y x2xn x2xd 3 = p := ⟨_, rfl⟩
  obtain ⟨u1, e3⟩ : ∃ p, madeQ s2z s2t x2zn x2zd 3 = p := ⟨_, rfl⟩
  obtain ⟨k1, k2⟩ := innerQ_in (span_le p0 p1) (n := i3 % 9) (by omega) (by omega)
  obtain ⟨k3, k4⟩ := innerQ_in (span_le u0 u1) (n := j3 % 9) (by omega) (by omega)
  have hf := iv_facts k1 k2 k3 k4
  exact Intervals_1 w s1x s1y s1z s1t s2x s2y s2z s2t a1x a1y a1z a1t a2x a2y a2z a2t n1x c1x n1y c1y n1z c1z n1t c1t n2x c2x n2y c2y n2z c2z n2t c2t x1xn x1xd x1zn x1zd x2xn x2xd x2zn x2zd i3 j3 h1x h1y h1z h1t h2x h2y h2z h2t ht p0 p1 u0 u1 _ _ _ _ _ _ _ _ (hid e0) (hid e1) (hid e2) (hid e3) (hid ⟨rfl, rfl⟩) (hid ⟨rfl, rfl⟩) (hid ⟨m3.1, rfl, rfl⟩) (hid ⟨l3.1, rfl, rfl⟩) (hid (by simp [scale_eq])) (hid hf)
end Go.Proofs.YtcgdkfadcglekaaGreatDoor
namespace Go.Proofs.YtcgdkfadcglekaaGreatDoor
open Go Go.RowKit Go.ChangeShapes Go.WideShapes Go.ChangeAt

set_option maxRecDepth 100000 in
theorem rationalIntervals_lifted (os : Os) (started : os.Started) (H : Type) (enc : TypeId × Value → H) :
    ReturnsInHanded {} Tryz.checked os 11 .any (fun w args => (Rows.rationalIntervalsSpec.pre enc Tryz.prog Tryz.f11 [] false w args ∧ laidMetH Tryz.prog laid3 w) ∧ sizedMet enc Tryz.prog Tryz.f11 (OpenSpec.ofChange Rows.rationalIntervalsSpec) false w args)
      (Rows.rationalIntervalsSpec.post enc Tryz.prog Tryz.f11 false true false false) := by
  refine returnsInHanded_of_change_and (C := Tryz.checked) (X := fun w _ => laidMetH Tryz.prog laid3 w) (fun _ _ _ hh h => h.of_heap hh) own started (by kernel_rfl) Tryz.func11
    (ChangeSpec.witness_shaped (enc := enc) (C := Tryz.checked) (os := os) (X := fun w _ => laidMetH Tryz.prog laid3 w) false (World.doorLaid Tryz.prog 2000 os) #[.agg #[.bool false, .slice none 0 0, .bool false, .slice none 0 0, .bool false, .slice none 0 0, .bool false, .slice none 0 0], .agg #[.bool false, .slice none 0 0, .bool false, .slice none 0 0, .bool false, .slice none 0 0, .bool false, .slice none 0 0], .agg #[.int .u8 0, .int .u8 0]] 8 rfl (World.shaped_of_RefB (by kernel_rfl) (by kernel_rfl)) (by kernel_rfl) (by kernel_rfl) (by kernel_rfl) (door_met os _)) ?_
  intro W base args ds gs before hval0 hW _ _ hL _
  have hval : ∀ (j : Nat) t v, Tryz.f11.params[j]? = some t → args[j]? = some v → Value.okWide Tryz.prog W .any base t v := hval0
  have hW' := hW
  obtain ⟨p, q, hA0, hV, rfl, hfz, hnd⟩ := hW
  have hA : DataW.TrodAll enc Tryz.prog W 0 (fun _ => true) true Tryz.f11.params.toList args.toList ds p := hA0
  rw [Tryz.params11] at hA hval
  obtain ⟨v1, v2, v3, d1, d2, d3, p1, p2, p3, rfl, rfl, rfl, k1, k2, k3⟩ := trodAll_three hA
  obtain ⟨rfl, rfl⟩ := trodVars_none hV
  obtain ⟨s1x, a1x, n1x, c1x, x1xn, s1y, a1y, n1y, c1y, x1xd, s1z, a1z, n1z, c1z, x1zn, s1t, a1t, n1t, c1t, x1zd, rfl, w1x, w1y, w1z, w1t, r1⟩ := rawp_open (hval 0 66 v1 rfl rfl) k1
  obtain ⟨s2x, a2x, n2x, c2x, x2xn, s2y, a2y, n2y, c2y, x2xd, s2z, a2z, n2z, c2z, x2zn, s2t, a2t, n2t, c2t, x2zd, rfl, w2x, w2y, w2z, w2t, r2⟩ := rawp_open (hval 1 66 v2 rfl rfl) k2
  obtain ⟨i3, j3, rfl, m3, l3, rfl, r3⟩ := bytes2_open (hval 2 72 v3 rfl rfl) k3
  clear hA0 hval0
  refine (Intervals_c W s1x s1y s1z s1t s2x s2y s2z s2t a1x a1y a1z a1t a2x a2y a2z a2t n1x c1x n1y c1y n1z c1z n1t c1t n2x c2x n2y c2y n2z c2z n2t c2t x1xn x1xd x1zn x1zd x2xn x2xd x2zn x2zd i3 j3 w1x w1y w1z w1t w2x w2y w2z w2t m3 l3 (tab_of_laid hL)).mono fun e W' ⟨x, he, hb, hx⟩ => ?_
  have hx : x = .bool true := hx
  subst he; subst hx
  refine ⟨_, rfl, post_of_below (pa := p1 ++ (p2 ++ [])) (pv := []) hW' (fun _ _ _ => trodAll_mk1 (shut_bool Tryz.underlying4 true)) (fun sp hsp => ?_) (fun _ _ => rfl) (by simp) hb (ok_one (by kernel_rfl) rfl (okWide_bool_mk Tryz.underlying4 _))⟩
  rw [Tryz.params11]
  exact trodAll_mk3 (r1 W' sp hb fun q hq => hsp q (by simp [hq])) (r2 W' sp hb fun q hq => hsp q (by simp [hq])) (r3 W' sp hb fun q hq => by cases hq)

theorem rationalIntervals_row : Rows.RationalIntervalsSaid :=
  OpenClaim.holds_of_wide 11 Tryz.f11 rfl rfl rfl rfl rfl rfl rfl ⟨rfl, rfl, rfl, rfl, rfl⟩ rfl rfl rfl rfl rfl (by kernel_rfl) Tryz.func11 (by kernel_rfl)
    (of_decide_eq_true (by kernel_rfl)) (by unfold Func.isWrapper; first | (rw [if_pos (by decide +kernel)]; kernel_rfl) | (rw [if_neg (by decide +kernel)]; exact ⟨rfl, rfl⟩))
    (fun os started H enc _ => rationalIntervals_lifted os started H enc)

set_option maxRecDepth 100000 in
/-- The tied card. -/
theorem rationalIntervals_holds : Rows.RationalIntervalsCardSaid :=
  Claim7.holds_tied_plain_at .later [] [.data, .data, .data] true Rows.rationalIntervalsCard.stood.harness false
    rationalIntervals_row (fun _ h => by cases h) (by kernel_rfl) (fun _ h => by cases h) rationalIntervals_row_tie rfl ⟨rfl, rfl⟩ (by kernel_rfl) rfl
    (fun f fn hf hfn => by
      obtain rfl : f = 11 := Option.some.inj ((show Tryz.prog.funcNamed "algorist/algoristlaw02.RationalIntervals" = some 11 by kernel_rfl).symm.trans hf) |>.symm
      obtain rfl : fn = Tryz.f11 := (Option.some.inj (Tryz.func11.symm.trans hfn)).symm
      refine ⟨by kernel_rfl, fun j t ht => ?_⟩
      rw [Tryz.params11] at ht
      have h3 : t = 66 ∨ t = 72 := by
        rcases j with _ | _ | _ | j
        · left; simpa using ht.symm
        · left; simpa using ht.symm
        · right; simpa using ht.symm
        · simp at ht
      rcases h3 with rfl | rfl
      · exact (show Tryz.prog.wantsStandIn 66 = false by kernel_rfl)
      · exact (show Tryz.prog.wantsStandIn 72 = false by kernel_rfl))
    (by kernel_rfl)
#print axioms rationalIntervals_holds
end Go.Proofs.YtcgdkfadcglekaaGreatDoor
