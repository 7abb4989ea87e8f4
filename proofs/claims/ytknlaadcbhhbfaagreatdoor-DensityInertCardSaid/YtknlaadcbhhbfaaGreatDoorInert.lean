/-
 The law DensityInert: its walk. (Printed by wip/gen/law40.py.)
-/
import Derived.Test.YtknlaadcbhhbfaaGreatDoorRfb
import Derived.Test.YtknlaadcbhhbfaaGreatDoorDen17
namespace Go.Proofs.YtknlaadcbhhbfaaGreatDoor
open Go Go.RowKit

def pr6 (j : Nat) : Nat := prBases.getD j 1
def Is6 : Value → World → Prop := fun v w => ∃ g : Nat, v = .slice (some ⟨g, 0, none⟩) 6 6 ∧ ∀ j, j < 6 → World.cell? w ⟨g, j, none⟩ = some (.int .i64 ((pr6 j : Nat) : Int))
theorem Is6.stb : Stb Is6 := fun _ _ _ e ⟨g, h1, h2⟩ => ⟨g, h1, fun j hj => e.cell (h2 j hj)⟩
def At6 (j : Nat) : Value → World → Prop := fun v w => ∃ g : Nat, v = .pointer (some ⟨g, j, none⟩) ∧ World.cell? w ⟨g, j, none⟩ = some (.int .i64 ((pr6 j : Nat) : Int))
theorem At6.stb (j : Nat) : Stb (At6 j) := fun _ _ _ e ⟨g, h1, h2⟩ => ⟨g, h1, e.cell h2⟩
section
variable {ops : Array Oper} {Q : Exit → Act → World → Prop} {ds : List (Option Tmp)} {a0 : Act} {w0 : World} {L : List (Value → World → Prop)} {boxes : List Nat} {i : Nat} {o : Oper}
theorem bI6 (ho : o.op = .buildSlice 42 6 #[(0, .const (.int .i64 2)), (1, .const (.int .i64 3)), (2, .const (.int .i64 5)), (3, .const (.int .i64 7)), (4, .const (.int .i64 11)), (5, .const (.int .i64 13))] := by rfl) (hi : L.getD i (fun _ _ => True) = Is6 := by kernel_rfl) (hb : boxes.contains i = false := by kernel_rfl) : Ok Tryz.prog ops Q ds a0 w0 L boxes i o :=
 ⟨fun v a w hE hd hf K' hK => by
  have hr : (Instr.buildSlice 42 6 #[(0, .int .i64 2), (1, .int .i64 3), (2, .int .i64 5), (3, .int .i64 7), (4, .int .i64 11), (5, .int .i64 13)]).run Tryz.prog w = .ok (.slice (some ⟨w.heap.size, 0, none⟩) 6 6) (w.alloc (.cells #[.int .i64 2, .int .i64 3, .int .i64 5, .int .i64 7, .int .i64 11, .int .i64 13] 2)) := by go_simp
  have hrun : (execOp a.eval o).run Tryz.prog w = .ok (.value (.slice (some ⟨w.heap.size, 0, none⟩) 6 6)) (w.alloc (.cells #[.int .i64 2, .int .i64 3, .int .i64 5, .int .i64 7, .int .i64 11, .int .i64 13] 2)) := by
   unfold execOp
   rw [ho]
   dsimp only
   simp only [List.map_toArray, List.map_cons, List.map_nil, Act.eval]
   simp [hr]
  unfold Oper.wp
  rw [hrun]
  refine hK.out _ _ ((Ext.refl _).alloc _) ?_ (FreshIf.no hb)
  rw [hi]
  refine ⟨_, rfl, fun j hj => ?_⟩
  refine cell_newAt _ _ rfl _ _ _ _ ?_
  obtain h | h | h | h | h | h : j = 0 ∨ j = 1 ∨ j = 2 ∨ j = 3 ∨ j = 4 ∨ j = 5 := by omega
  all_goals subst h; rfl⟩
theorem ix6 {x y : Operand} (j : Nat) (hj : j < 6) (hx : Od ops ds a0 w0 L i x Is6) (hy : Od ops ds a0 w0 L i y (IsV (.int .u8 ((j : Nat) : Int)))) (ho : o.op = .indexAddr 42 x y := by rfl) (hi : L.getD i (fun _ _ => True) = At6 j := by kernel_rfl) (hb : boxes.contains i = false := by kernel_rfl) : Ok Tryz.prog ops Q ds a0 w0 L boxes i o :=
 Ok.of hb fun v a w hE hd hf => by
  obtain ⟨g, h1, h3⟩ := hx.out v a w hE hd hf
  have h2 : a.eval y = _ := hy.out v a w hE hd hf
  refine ⟨.pointer (some ⟨g, j, none⟩), ?_, by rw [hi]; exact ⟨g, rfl, h3 j hj⟩⟩
  have hj0 : (0 : Int) ≤ (j : Int) := by omega
  have hj6 : (j : Int) < 6 := by omega
  have : (Instr.indexAt 42 (.slice (some ⟨g, 0, none⟩) 6 6) (.int .u8 ((j : Nat) : Int))).run Tryz.prog w = .ok (.pointer (some ⟨g, j, none⟩)) w := by go_simp
  unfold execOp
  rw [ho]
  dsimp only
  rw [h1, h2]
  simp [this]
theorem ld6 {x : Operand} (j : Nat) (hx : Od ops ds a0 w0 L i x (At6 j)) (ho : o.op = .load 2 x := by rfl) (p : Nat) (hp : pr6 j = p) (hi : L.getD i (fun _ _ => True) = IsV (.int .i64 ((p : Nat) : Int)) := by kernel_rfl) (hb : boxes.contains i = false := by kernel_rfl) : Ok Tryz.prog ops Q ds a0 w0 L boxes i o :=
 Ok.of hb fun v' a w hE hd hf => by
  obtain ⟨g, h, hcell⟩ := hx.out v' a w hE hd hf
  subst hp
  exact ⟨_, ld_run ho h (show (Instr.loadAt 2 (.pointer (some ⟨g, j, none⟩))).run Tryz.prog w = .ok (.int .i64 ((pr6 j : Nat) : Int)) w by go_simp), by rw [hi]; exact rfl⟩
end
theorem root_ex : ∀ n : Nat, ∃ L, L * L ≤ n ∧ n < (L + 1) * (L + 1)
 | 0 => ⟨0, by decide, by decide⟩
 | n + 1 => by
  obtain ⟨L, h1, h2⟩ := root_ex n
  by_cases h : n + 1 < (L + 1) * (L + 1)
  ·exact ⟨L, by omega, h⟩
  ·refine ⟨L + 1, by omega, ?_⟩
   have : (L + 1 + 1) * (L + 1 + 1) = (L + 1) * (L + 1) + (L + 1) + (L + 1) + 1 := by
    rw [Nat.add_mul (L + 1) 1 (L + 1 + 1), Nat.mul_add (L + 1) (L + 1) 1]; omega
   omega
theorem pr6_ok : ∀ j, j < 6 → 2 ≤ pr6 j ∧ pr6 j ≤ 13 := by decide
theorem pr6_Pr : ∀ j, j < 6 → Pr (pr6 j) := fun j hj => by
 have key : ∀ p : Nat, 2 ≤ p → p ≤ 13 → (∀ d, d ≤ 13 → d ≠ 0 → p % d = 0 → d = 1 ∨ d = p) → Pr p := fun p h1 h2 h => ⟨h1, fun d hd => by
  have h3 := Nat.le_of_dvd (by omega) hd
  refine h d (by omega) (fun h0 => ?_) (Nat.mod_eq_zero_of_dvd hd)
  subst h0
  have := Nat.eq_zero_of_zero_dvd hd
  omega⟩
 have hh := pr6_ok j hj
 refine key _ hh.1 hh.2 ?_
 exact (show ∀ j, j < 6 → ∀ d, d ≤ 13 → d ≠ 0 → pr6 j % d = 0 → d = 1 ∨ d = pr6 j by decide) j hj

set_option maxRecDepth 100000 in
set_option maxHeartbeats 8000000 in
theorem Inert_0 (w : World) (d m k : Nat) (v1 v2 v3 v4 v5 v6 v7 v8 : Value) (ht : Tab w) (hs : Sg w) (T L j p a b : Nat) (HD : Hid (d < 65536)) (HT : Hid (dsz d = T)) (HN : Hid (1 ≤ T ∧ T ≤ 4194304 ∧ (T % 4 = 0 ∨ T % 4 = 3))) (HL : Hid (L * L ≤ T ∧ T < (L + 1) * (L + 1)))
  (HJ : Hid (((k : Nat) : Int).tmod 6 = ((j : Nat) : Int) ∧ j < 6)) (HP : Hid (pr6 j = p)) (HM : Hid (IntKind.i64.wrap ((m : Nat) : Int) = ((m : Nat) : Int) ∧ IntKind.i64.wrap (1 + ((m : Nat) : Int)) = ((a : Nat) : Int))) (HA : Hid (-9223372036854775808 ≤ ((a : Nat) : Int) ∧ ((a : Nat) : Int) ≤ 9223372036854775807)) (HPI : Hid (-9223372036854775808 ≤ ((p : Nat) : Int) ∧ ((p : Nat) : Int) ≤ 9223372036854775807)) (HB : Hid (((a : Nat) : Int) * ((p : Nat) : Int) = ((b : Nat) : Int)))
  (e : Int) (HE : Hid (unsE (cdB T L) ((b : Nat) : Int) = e)) (HE0 : Hid (e ≠ 0)) :
  Calls Tryz.prog 4 #[.agg #[.int .u16 ((d : Nat) : Int), v1, v2, v3, v4, v5, v6, v7, v8], .int .u8 ((m : Nat) : Int), .int .u8 ((k : Nat) : Int)] w (Ret w (IsV (.bool true))) := by
 obtain ⟨W, hW, S, cB0, cB1, cB2, cB3, cB4, cB5, cB6, cB7, cB8⟩ : ∃ W, W = w.alloc (.cells #[.int .u16 ((d : Nat) : Int), v1, v2, v3, v4, v5, v6, v7, v8] 26) ∧ Sto w W [] ∧ World.cell? W ⟨w.heap.size, 0, none⟩ = some (.int .u16 ((d : Nat) : Int)) ∧ World.cell? W ⟨w.heap.size, 1, none⟩ = some (v1) ∧ World.cell? W ⟨w.heap.size, 2, none⟩ = some (v2) ∧ World.cell? W ⟨w.heap.size, 3, none⟩ = some (v3) ∧ World.cell? W ⟨w.heap.size, 4, none⟩ = some (v4) ∧ World.cell? W ⟨w.heap.size, 5, none⟩ = some (v5) ∧ World.cell? W ⟨w.heap.size, 6, none⟩ = some (v6) ∧ World.cell? W ⟨w.heap.size, 7, none⟩ = some (v7) ∧ World.cell? W ⟨w.heap.size, 8, none⟩ = some (v8) := ⟨_, rfl, ((Sto.start w).mono ((Ext.refl _).alloc _)), cell_newAt _ _ (by simp) _ _ _ _ rfl, cell_newAt _ _ (by simp) _ _ _ _ rfl, cell_newAt _ _ (by simp) _ _ _ _ rfl, cell_newAt _ _ (by simp) _ _ _ _ rfl, cell_newAt _ _ (by simp) _ _ _ _ rfl, cell_newAt _ _ (by simp) _ _ _ _ rfl, cell_newAt _ _ (by simp) _ _ _ _ rfl, cell_newAt _ _ (by simp) _ _ _ _ rfl, cell_newAt _ _ (by simp) _ _ _ _ rfl⟩
 go_enter Tryz.func4, Tryz.ntmps4
 go_upto_region 1 with (fail)
 rw [← hW]
 clear hW
 refine rgs 2 [some 21, some 7] [IsV (.bool true), IsV (.bool true)] [] ?_ ?_
 ·refine Rc (cl0 (en Tryz.func6)  (fun w' hE => examplesD_f w' (ht.ext (S.ext.trans hE)) (hs.ext (S.ext.trans hE)))) ?_
  refine Rc (mv (Od.lc 0 21)) ?_
  exact RgAll.nil
 intro v W1 e1 hΦ _
 replace S := S.mono e1
 replace cB0 := e1.cell cB0
 replace cB1 := e1.cell cB1
 replace cB2 := e1.cell cB2
 replace cB3 := e1.cell cB3
 replace cB4 := e1.cell cB4
 replace cB5 := e1.cell cB5
 replace cB6 := e1.cell cB6
 replace cB7 := e1.cell cB7
 replace cB8 := e1.cell cB8
 have v1 : v 1 = .bool true := hΦ 1 (by decide)
 simp only [layL, Act.put, uAx, u0x, u1x, Nat.reduceAdd]
 rw [v1]
 clear v1 hΦ e1
 refine wpList_nil ?_
 go_upto_region 2 with (fail)
 refine rgs 2 [some 22, some 23] [IsV (.bool true), IsV (.bool false)] [] ?_ ?_
 ·refine Rc (mv (Od.lit 7)) ?_
  refine Rc (nt (Od.loc 0 22)) ?_
  exact RgAll.nil
 intro v W2 e1 hΦ _
 replace S := S.mono e1
 replace cB0 := e1.cell cB0
 replace cB1 := e1.cell cB1
 replace cB2 := e1.cell cB2
 replace cB3 := e1.cell cB3
 replace cB4 := e1.cell cB4
 replace cB5 := e1.cell cB5
 replace cB6 := e1.cell cB6
 replace cB7 := e1.cell cB7
 replace cB8 := e1.cell cB8
 have v1 : v 1 = .bool false := hΦ 1 (by decide)
 simp only [layL, Act.put, uAx, u0x, u1x, Nat.reduceAdd]
 rw [v1]
 clear v1 hΦ e1
 refine wpList_nil ?_
 go_upto_region 4 with (fail)
 have hl := hid S.lt; have hw := S.ext.size
 refine rgs 3 [some 24, some 25, some 8] [IsV (.agg #[.int .u16 ((d : Nat) : Int), v1, v2, v3, v4, v5, v6, v7, v8]), IsI 2 (-((T : Nat) : Int)), IsBo W2 1] [2] ?_ ?_
 ·refine Rc (ldRaw (raw_run ⟨cB0, cB1, cB2, cB3, cB4, cB5, cB6, cB7, cB8⟩) (Od.lit 3)) ?_
  refine Rc (cl1 (en Tryz.func7) (Od.lc (Φ := IsV (.agg #[.int .u16 ((d : Nat) : Int), v1, v2, v3, v4, v5, v6, v7, v8])) 0 24) (fun x0 w' hE d0 => by { obtain rfl : x0 = .agg #[.int .u16 ((d : Nat) : Int), v1, v2, v3, v4, v5, v6, v7, v8] := d0; exact (by have hh := disc_f w' d v1 v2 v3 v4 v5 v6 v7 v8 HD.out; rw [HT.out] at hh; exact hh) })) ?_
  refine Rc (al al_Int) ?_
  exact RgAll.nil
 intro v W3 e1 hΦ _
 replace S := S.mono e1
 have h25 := hΦ 1 (by decide)
 obtain ⟨g8, v2, q2, b1, _⟩ := (hΦ 2 (by decide) : IsBo W2 1 (v 2) W3)
 replace S := S.addN 1 (ApartO.old hl.out q2) (Nat.le_trans hw q2) b1
 simp only [newF, List.cons_append, List.nil_append] at S
 simp only [layL, Act.put, uAx, u0x, u1x, Nat.reduceAdd]
 rw [v2]
 clear b1 hl hw v2 hΦ e1
 try simp only [List.drop_succ_cons, List.drop_zero]
 (with_reducible refine stL ?_ (by rfl)); intro KK hKK; refine stI S 0 (g8) 0 h25 st_Int (fun W4 S2 G2 => hKK _ _ ?_) rfl
 replace S := S2; clear S2 G2 hKK KK h25
 simp only [u0x] at S
 refine wpList_nil ?_
 clear cB0 cB1 cB2 cB3 cB4 cB5 cB6 cB7 cB8
 go_upto_region 5 with (fail)
 refine rgs 6 [some 26, some 27, some 28, some 29, some 30, some 9] [Is6, IsV (.int .u8 ((k : Nat) : Int)), IsV (.int .u8 ((j : Nat) : Int)), At6 j, IsV (.int .i64 ((p : Nat) : Int)), IsV (.int .i64 ((p : Nat) : Int))] [] ?_ ?_ (hst := by repeat' (first | exact trivial | exact Is6.stb | exact At6.stb _ | exact IsV.stb _ | exact IsI.stb _ _ | exact IsBo.stb _ _ | apply IsT2.stb | apply IsT3.stb | apply IsJ.stb | apply IsQ.stb | apply And.intro))
 ·refine Rc bI6 ?_
  refine Rc (mv (Od.lit 2)) ?_
  refine Rc (bn (r := .int .u8 ((j : Nat) : Int)) (Od.loc 1 27) Od.con (hr := fun w => by have hx9 := HJ.out.1; go_simp)) ?_
  refine Rc (ix6 j HJ.out.2 (Od.lc (Φ := Is6) 0 26) (Od.lc (Φ := IsV (.int .u8 ((j : Nat) : Int))) 2 28)) ?_
  refine Rc (ld6 j (Od.lc (Φ := At6 j) 3 29) rfl p HP.out) ?_
  refine Rc (mv (Od.lc 4 30)) ?_
  exact RgAll.nil
 intro v W5 e1 hΦ _
 replace S := S.mono e1
 have v5 : v 5 = .int .i64 ((p : Nat) : Int) := hΦ 5 (by decide)
 simp only [layL, Act.put, uAx, u0x, u1x, Nat.reduceAdd]
 rw [v5]
 clear v5 hΦ e1
 refine wpList_nil ?_
 go_upto_region 6 with (fail)
 have hl := hid S.lt; have hw := S.ext.size
 refine rgs 5 [some 31, some 32, some 33, some 34, some 10] [IsV (.int .u8 ((m : Nat) : Int)), IsV (.int .i64 ((m : Nat) : Int)), IsV (.int .i64 ((a : Nat) : Int)), IsI 2 (((a : Nat) : Int)), IsBo W5 1] [4] ?_ ?_
 ·refine Rc (mv (Od.lit 1)) ?_
  refine RgAll.cons (by { (with_reducible refine RgL.mk (by rfl) ?_); intro v a w' hE hd hf; have d0 : v 0 = .int .u8 ((m : Nat) : Int) := hd 0 (by kernel_rfl); have ev0 := hf.val 0 31 _ d0 (by kernel_rfl) (by kernel_rfl) (by kernel_rfl); clear d0; have hx9 := HM.out.1; clear hd hf; intro K hK; go_simp; exact hK.out _ _ (Ext.refl _) rfl (FreshIf.no rfl) }) ?_
  refine Rc (bn (r := .int .i64 ((a : Nat) : Int)) Od.con (Od.loc 1 32) (hr := fun w => by have hx9 := HM.out.2; go_simp)) ?_
  refine Rc (cl1 (en Tryz.func8) (Od.lc (Φ := IsV (.int .i64 ((a : Nat) : Int))) 2 33) (fun x0 w' hE d0 => by { obtain rfl : x0 = .int .i64 ((a : Nat) : Int) := d0; exact ROf_f w' ((a : Nat) : Int) HA.out.1 HA.out.2 })) ?_
  refine Rc (al al_Int) ?_
  exact RgAll.nil
 intro v W6 e1 hΦ _
 replace S := S.mono e1
 have h34 := hΦ 3 (by decide)
 obtain ⟨g10, v4, q4, b3, _⟩ := (hΦ 4 (by decide) : IsBo W5 1 (v 4) W6)
 replace S := S.addN 1 (ApartO.old hl.out q4) (Nat.le_trans hw q4) b3
 simp only [newF, List.cons_append, List.nil_append] at S
 simp only [layL, Act.put, uAx, u0x, u1x, Nat.reduceAdd]
 rw [v4]
 clear b3 hl hw v4 hΦ e1
 try simp only [List.drop_succ_cons, List.drop_zero]
 (with_reducible refine stL ?_ (by rfl)); intro KK hKK; refine stI S 0 (g10) 0 h34 st_Int (fun W7 S2 G2 => hKK _ _ ?_) rfl
 replace S := S2; clear S2 G2 hKK KK h34
 simp only [u0x] at S
 refine wpList_nil ?_
 go_upto_region 7 with (fail)
 have hl := hid S.lt; have hw := S.ext.size
 refine rgs 3 [some 35, some 36, some 11] [IsV (.int .i64 ((p : Nat) : Int)), IsI 2 (((p : Nat) : Int)), IsBo W7 1] [2] ?_ ?_
 ·refine Rc (mv (Od.lit 9)) ?_
  refine Rc (cl1 (en Tryz.func8) (Od.lc (Φ := IsV (.int .i64 ((p : Nat) : Int))) 0 35) (fun x0 w' hE d0 => by { obtain rfl : x0 = .int .i64 ((p : Nat) : Int) := d0; exact ROf_f w' ((p : Nat) : Int) HPI.out.1 HPI.out.2 })) ?_
  refine Rc (al al_Int) ?_
  exact RgAll.nil
 intro v W8 e1 hΦ _
 replace S := S.mono e1
 have h36 := hΦ 1 (by decide)
 obtain ⟨g11, v2, q6, b5, _⟩ := (hΦ 2 (by decide) : IsBo W7 1 (v 2) W8)
 replace S := S.addN 1 (ApartO.old hl.out q6) (Nat.le_trans hw q6) b5
 simp only [newF, List.cons_append, List.nil_append] at S
 simp only [layL, Act.put, uAx, u0x, u1x, Nat.reduceAdd]
 rw [v2]
 clear b5 hl hw v2 hΦ e1
 try simp only [List.drop_succ_cons, List.drop_zero]
 (with_reducible refine stL ?_ (by rfl)); intro KK hKK; refine stI S 0 (g11) 0 h36 st_Int (fun W9 S2 G2 => hKK _ _ ?_) rfl
 replace S := S2; clear S2 G2 hKK KK h36
 simp only [u0x] at S
 refine wpList_nil ?_
 go_upto_region 8 with (fail)
 have hl := hid S.lt; have hw := S.ext.size
 refine rgs 4 [some 37, some 38, some 39, some 12] [IsI 2 (((a : Nat) : Int)), IsI 2 (((p : Nat) : Int)), IsI 4 (((b : Nat) : Int)), IsBo W9 1] [3] ?_ ?_
 ·refine Rc (ldI S 1 (g10) 0 (Od.lit 10) ld_Int) ?_
  refine Rc (ldI S 0 (g11) 0 (Od.lit 11) ld_Int) ?_
  refine Rc (cl2 (en Tryz.func11) (Od.lc (Φ := IsI 2 (((a : Nat) : Int))) 0 37) (Od.lc (Φ := IsI 2 (((p : Nat) : Int))) 1 38) (fun x0 x1 w' hE d0 d1 => (by have hh := RMul_f d0 d1 (by decide) (by decide); rw [HB.out] at hh; exact hh))) ?_
  refine Rc (al al_Int) ?_
  exact RgAll.nil
 intro v W10 e1 hΦ _
 replace S := S.mono e1
 have h39 := hΦ 2 (by decide)
 obtain ⟨g12, v3, q8, b7, _⟩ := (hΦ 3 (by decide) : IsBo W9 1 (v 3) W10)
 replace S := S.addN 1 (ApartO.old hl.out q8) (Nat.le_trans hw q8) b7
 simp only [newF, List.cons_append, List.nil_append] at S
 simp only [layL, Act.put, uAx, u0x, u1x, Nat.reduceAdd]
 rw [v3]
 clear b7 hl hw v3 hΦ e1
 try simp only [List.drop_succ_cons, List.drop_zero]
 (with_reducible refine stL ?_ (by rfl)); intro KK hKK; refine stI S 0 (g12) 0 h39 st_Int (fun W11 S2 G2 => hKK _ _ ?_) rfl
 replace S := S2; clear S2 G2 hKK KK h39
 simp only [u0x] at S
 refine wpList_nil ?_
 go_upto_region 9 with (fail)
 refine rgs 4 [some 40, some 41, some 42, some 43] [IsI 2 (-((T : Nat) : Int)), IsI 4 (((b : Nat) : Int)), IsV (.int .i64 e), IsV (.bool true)] [] ?_ ?_
 ·refine Rc (ldI S 3 (g8) 0 (Od.lit 8) ld_Int) ?_
  refine Rc (ldI S 0 (g12) 0 (Od.lit 12) ld_Int) ?_
  refine Rc (cl2 (en Tryz.func9) (Od.lc (Φ := IsI 2 (-((T : Nat) : Int))) 0 40) (Od.lc (Φ := IsI 4 (((b : Nat) : Int))) 1 41) (fun x0 x1 w' hE d0 d1 => (by have hh := Refused_f d0 d1 (by decide) (by decide) HN.out HL.out; rw [HE.out] at hh; exact hh))) ?_
  refine Rc (bn (r := .bool true) (Od.loc 2 42) Od.con (hr := fun w => by have hx9 := HE0.out; go_simp)) ?_
  exact RgAll.nil
 intro v W12 e1 hΦ _
 replace S := S.mono e1
 have v3 : v 3 = .bool true := hΦ 3 (by decide)
 simp only [layL, Act.put, uAx, u0x, u1x, Nat.reduceAdd]
 rw [v3]
 clear v3 hΦ e1
 refine wpList_nil ?_
 go_upto_region 10 with (fail)
 refine rgs 2 [some 44, some 6] [IsV (.bool true), IsV (.bool true)] [] ?_ ?_
 ·refine Rc (mv (Od.lit 7)) ?_
  refine Rc (mv (Od.lc 0 44)) ?_
  exact RgAll.nil
 intro v W13 e1 hΦ _
 replace S := S.mono e1
 have v1 : v 1 = .bool true := hΦ 1 (by decide)
 simp only [layL, Act.put, uAx, u0x, u1x, Nat.reduceAdd]
 rw [v1]
 clear v1 hΦ e1
 refine wpList_nil ?_
 go_wp2_with fail
 exact bodyPost_ret (v := .bool true) (by simp [results, Tryz.results4, go_sem]) rfl (⟨_, rfl, S.ext, rfl⟩)

set_option maxRecDepth 100000 in
set_option maxHeartbeats 8000000 in
theorem Inert_1 (w : World) (d m k : Nat) (v1 v2 v3 v4 v5 v6 v7 v8 : Value) (ht : Tab w) (hs : Sg w) (T L j p a b c : Nat) (HD : Hid (d < 65536)) (HT : Hid (dsz d = T)) (HN : Hid (1 ≤ T ∧ T ≤ 4194304 ∧ (T % 4 = 0 ∨ T % 4 = 3))) (HL : Hid (L * L ≤ T ∧ T < (L + 1) * (L + 1)))
  (HJ : Hid (((k : Nat) : Int).tmod 6 = ((j : Nat) : Int) ∧ j < 6)) (HP : Hid (pr6 j = p)) (HM : Hid (IntKind.i64.wrap ((m : Nat) : Int) = ((m : Nat) : Int) ∧ IntKind.i64.wrap (1 + ((m : Nat) : Int)) = ((a : Nat) : Int))) (HA : Hid (-9223372036854775808 ≤ ((a : Nat) : Int) ∧ ((a : Nat) : Int) ≤ 9223372036854775807)) (HPI : Hid (-9223372036854775808 ≤ ((p : Nat) : Int) ∧ ((p : Nat) : Int) ≤ 9223372036854775807)) (HB : Hid (((a : Nat) : Int) * ((p : Nat) : Int) = ((b : Nat) : Int)))
  (s t u r o : Int) (HE : Hid (unsE (cdB T L) ((b : Nat) : Int) = 0)) (HC : Hid (((b : Nat) : Int) * ((p : Nat) : Int) = ((c : Nat) : Int))) (HTa : Hid (totE T L ((a : Nat) : Int) = s ∧ unsE (cdB T L) ((a : Nat) : Int) = 0)) (HTb : Hid (totE T L ((b : Nat) : Int) = t ∧ unsE (cdB T L) ((b : Nat) : Int) = 0)) (HTc : Hid (totE T L ((c : Nat) : Int) = u ∧ unsE (cdB T L) ((c : Nat) : Int) = 0)) (HUp : Hid (unsE (cdB T L) ((p : Nat) : Int) = 0)) (HMp : Hid ((0 < p ∧ p ≤ 1048576) ∧ p < 1048576)) (HPr : Hid (Pr p)) (HIs : Hid (∀ x w, IsI 2 ((p : Nat) : Int) x w → Calls Tryz.prog 38 #[x] w (Ret w (IsT2 (IsV (.bool true)) (IsV (.int .i64 0)))))) (HO : Hid (locg (kr (-((T : Nat) : Int))) p (vl p p) = o))
  (HF : Hid ((o = 1 ∧ s = t ∧ s = u) ∨ (o = 2 ∧ s ≤ t ∧ t ≤ u ∧ IntKind.i64.wrap (u - t) = r ∧ IntKind.i64.wrap (t - s) = r) ∨ (o = 0 ∧ s = u ∧ (s = 0 ∨ t = 0)))) :
  Calls Tryz.prog 4 #[.agg #[.int .u16 ((d : Nat) : Int), v1, v2, v3, v4, v5, v6, v7, v8], .int .u8 ((m : Nat) : Int), .int .u8 ((k : Nat) : Int)] w (Ret w (IsV (.bool true))) := by
 obtain ⟨W, hW, S, cB0, cB1, cB2, cB3, cB4, cB5, cB6, cB7, cB8⟩ : ∃ W, W = w.alloc (.cells #[.int .u16 ((d : Nat) : Int), v1, v2, v3, v4, v5, v6, v7, v8] 26) ∧ Sto w W [] ∧ World.cell? W ⟨w.heap.size, 0, none⟩ = some (.int .u16 ((d : Nat) : Int)) ∧ World.cell? W ⟨w.heap.size, 1, none⟩ = some (v1) ∧ World.cell? W ⟨w.heap.size, 2, none⟩ = some (v2) ∧ World.cell? W ⟨w.heap.size, 3, none⟩ = some (v3) ∧ World.cell? W ⟨w.heap.size, 4, none⟩ = some (v4) ∧ World.cell? W ⟨w.heap.size, 5, none⟩ = some (v5) ∧ World.cell? W ⟨w.heap.size, 6, none⟩ = some (v6) ∧ World.cell? W ⟨w.heap.size, 7, none⟩ = some (v7) ∧ World.cell? W ⟨w.heap.size, 8, none⟩ = some (v8) := ⟨_, rfl, ((Sto.start w).mono ((Ext.refl _).alloc _)), cell_newAt _ _ (by simp) _ _ _ _ rfl, cell_newAt _ _ (by simp) _ _ _ _ rfl, cell_newAt _ _ (by simp) _ _ _ _ rfl, cell_newAt _ _ (by simp) _ _ _ _ rfl, cell_newAt _ _ (by simp) _ _ _ _ rfl, cell_newAt _ _ (by simp) _ _ _ _ rfl, cell_newAt _ _ (by simp) _ _ _ _ rfl, cell_newAt _ _ (by simp) _ _ _ _ rfl, cell_newAt _ _ (by simp) _ _ _ _ rfl⟩
 go_enter Tryz.func4, Tryz.ntmps4
 go_upto_region 1 with (fail)
 rw [← hW]
 clear hW
 refine rgs 2 [some 21, some 7] [IsV (.bool true), IsV (.bool true)] [] ?_ ?_
 ·refine Rc (cl0 (en Tryz.func6)  (fun w' hE => examplesD_f w' (ht.ext (S.ext.trans hE)) (hs.ext (S.ext.trans hE)))) ?_
  refine Rc (mv (Od.lc 0 21)) ?_
  exact RgAll.nil
 intro v W1 e1 hΦ _
 replace S := S.mono e1
 replace cB0 := e1.cell cB0
 replace cB1 := e1.cell cB1
 replace cB2 := e1.cell cB2
 replace cB3 := e1.cell cB3
 replace cB4 := e1.cell cB4
 replace cB5 := e1.cell cB5
 replace cB6 := e1.cell cB6
 replace cB7 := e1.cell cB7
 replace cB8 := e1.cell cB8
 have v1 : v 1 = .bool true := hΦ 1 (by decide)
 simp only [layL, Act.put, uAx, u0x, u1x, Nat.reduceAdd]
 rw [v1]
 clear v1 hΦ e1
 refine wpList_nil ?_
 go_upto_region 2 with (fail)
 refine rgs 2 [some 22, some 23] [IsV (.bool true), IsV (.bool false)] [] ?_ ?_
 ·refine Rc (mv (Od.lit 7)) ?_
  refine Rc (nt (Od.loc 0 22)) ?_
  exact RgAll.nil
 intro v W2 e1 hΦ _
 replace S := S.mono e1
 replace cB0 := e1.cell cB0
 replace cB1 := e1.cell cB1
 replace cB2 := e1.cell cB2
 replace cB3 := e1.cell cB3
 replace cB4 := e1.cell cB4
 replace cB5 := e1.cell cB5
 replace cB6 := e1.cell cB6
 replace cB7 := e1.cell cB7
 replace cB8 := e1.cell cB8
 have v1 : v 1 = .bool false := hΦ 1 (by decide)
 simp only [layL, Act.put, uAx, u0x, u1x, Nat.reduceAdd]
 rw [v1]
 clear v1 hΦ e1
 refine wpList_nil ?_
 go_upto_region 4 with (fail)
 have hl := hid S.lt; have hw := S.ext.size
 refine rgs 3 [some 24, some 25, some 8] [IsV (.agg #[.int .u16 ((d : Nat) : Int), v1, v2, v3, v4, v5, v6, v7, v8]), IsI 2 (-((T : Nat) : Int)), IsBo W2 1] [2] ?_ ?_
 ·refine Rc (ldRaw (raw_run ⟨cB0, cB1, cB2, cB3, cB4, cB5, cB6, cB7, cB8⟩) (Od.lit 3)) ?_
  refine Rc (cl1 (en Tryz.func7) (Od.lc (Φ := IsV (.agg #[.int .u16 ((d : Nat) : Int), v1, v2, v3, v4, v5, v6, v7, v8])) 0 24) (fun x0 w' hE d0 => by { obtain rfl : x0 = .agg #[.int .u16 ((d : Nat) : Int), v1, v2, v3, v4, v5, v6, v7, v8] := d0; exact (by have hh := disc_f w' d v1 v2 v3 v4 v5 v6 v7 v8 HD.out; rw [HT.out] at hh; exact hh) })) ?_
  refine Rc (al al_Int) ?_
  exact RgAll.nil
 intro v W3 e1 hΦ _
 replace S := S.mono e1
 have h25 := hΦ 1 (by decide)
 obtain ⟨g8, v2, q2, b1, _⟩ := (hΦ 2 (by decide) : IsBo W2 1 (v 2) W3)
 replace S := S.addN 1 (ApartO.old hl.out q2) (Nat.le_trans hw q2) b1
 simp only [newF, List.cons_append, List.nil_append] at S
 simp only [layL, Act.put, uAx, u0x, u1x, Nat.reduceAdd]
 rw [v2]
 clear b1 hl hw v2 hΦ e1
 try simp only [List.drop_succ_cons, List.drop_zero]
 (with_reducible refine stL ?_ (by rfl)); intro KK hKK; refine stI S 0 (g8) 0 h25 st_Int (fun W4 S2 G2 => hKK _ _ ?_) rfl
 replace S := S2; clear S2 G2 hKK KK h25
 simp only [u0x] at S
 refine wpList_nil ?_
 clear cB0 cB1 cB2 cB3 cB4 cB5 cB6 cB7 cB8
 go_upto_region 5 with (fail)
 refine rgs 6 [some 26, some 27, some 28, some 29, some 30, some 9] [Is6, IsV (.int .u8 ((k : Nat) : Int)), IsV (.int .u8 ((j : Nat) : Int)), At6 j, IsV (.int .i64 ((p : Nat) : Int)), IsV (.int .i64 ((p : Nat) : Int))] [] ?_ ?_ (hst := by repeat' (first | exact trivial | exact Is6.stb | exact At6.stb _ | exact IsV.stb _ | exact IsI.stb _ _ | exact IsBo.stb _ _ | apply IsT2.stb | apply IsT3.stb | apply IsJ.stb | apply IsQ.stb | apply And.intro))
 ·refine Rc bI6 ?_
  refine Rc (mv (Od.lit 2)) ?_
  refine Rc (bn (r := .int .u8 ((j : Nat) : Int)) (Od.loc 1 27) Od.con (hr := fun w => by have hx9 := HJ.out.1; go_simp)) ?_
  refine Rc (ix6 j HJ.out.2 (Od.lc (Φ := Is6) 0 26) (Od.lc (Φ := IsV (.int .u8 ((j : Nat) : Int))) 2 28)) ?_
  refine Rc (ld6 j (Od.lc (Φ := At6 j) 3 29) rfl p HP.out) ?_
  refine Rc (mv (Od.lc 4 30)) ?_
  exact RgAll.nil
 intro v W5 e1 hΦ _
 replace S := S.mono e1
 have v5 : v 5 = .int .i64 ((p : Nat) : Int) := hΦ 5 (by decide)
 simp only [layL, Act.put, uAx, u0x, u1x, Nat.reduceAdd]
 rw [v5]
 clear v5 hΦ e1
 refine wpList_nil ?_
 go_upto_region 6 with (fail)
 have hl := hid S.lt; have hw := S.ext.size
 refine rgs 5 [some 31, some 32, some 33, some 34, some 10] [IsV (.int .u8 ((m : Nat) : Int)), IsV (.int .i64 ((m : Nat) : Int)), IsV (.int .i64 ((a : Nat) : Int)), IsI 2 (((a : Nat) : Int)), IsBo W5 1] [4] ?_ ?_
 ·refine Rc (mv (Od.lit 1)) ?_
  refine RgAll.cons (by { (with_reducible refine RgL.mk (by rfl) ?_); intro v a w' hE hd hf; have d0 : v 0 = .int .u8 ((m : Nat) : Int) := hd 0 (by kernel_rfl); have ev0 := hf.val 0 31 _ d0 (by kernel_rfl) (by kernel_rfl) (by kernel_rfl); clear d0; have hx9 := HM.out.1; clear hd hf; intro K hK; go_simp; exact hK.out _ _ (Ext.refl _) rfl (FreshIf.no rfl) }) ?_
  refine Rc (bn (r := .int .i64 ((a : Nat) : Int)) Od.con (Od.loc 1 32) (hr := fun w => by have hx9 := HM.out.2; go_simp)) ?_
  refine Rc (cl1 (en Tryz.func8) (Od.lc (Φ := IsV (.int .i64 ((a : Nat) : Int))) 2 33) (fun x0 w' hE d0 => by { obtain rfl : x0 = .int .i64 ((a : Nat) : Int) := d0; exact ROf_f w' ((a : Nat) : Int) HA.out.1 HA.out.2 })) ?_
  refine Rc (al al_Int) ?_
  exact RgAll.nil
 intro v W6 e1 hΦ _
 replace S := S.mono e1
 have h34 := hΦ 3 (by decide)
 obtain ⟨g10, v4, q4, b3, _⟩ := (hΦ 4 (by decide) : IsBo W5 1 (v 4) W6)
 replace S := S.addN 1 (ApartO.old hl.out q4) (Nat.le_trans hw q4) b3
 simp only [newF, List.cons_append, List.nil_append] at S
 simp only [layL, Act.put, uAx, u0x, u1x, Nat.reduceAdd]
 rw [v4]
 clear b3 hl hw v4 hΦ e1
 try simp only [List.drop_succ_cons, List.drop_zero]
 (with_reducible refine stL ?_ (by rfl)); intro KK hKK; refine stI S 0 (g10) 0 h34 st_Int (fun W7 S2 G2 => hKK _ _ ?_) rfl
 replace S := S2; clear S2 G2 hKK KK h34
 simp only [u0x] at S
 refine wpList_nil ?_
 go_upto_region 7 with (fail)
 have hl := hid S.lt; have hw := S.ext.size
 refine rgs 3 [some 35, some 36, some 11] [IsV (.int .i64 ((p : Nat) : Int)), IsI 2 (((p : Nat) : Int)), IsBo W7 1] [2] ?_ ?_
 ·refine Rc (mv (Od.lit 9)) ?_
  refine Rc (cl1 (en Tryz.func8) (Od.lc (Φ := IsV (.int .i64 ((p : Nat) : Int))) 0 35) (fun x0 w' hE d0 => by { obtain rfl : x0 = .int .i64 ((p : Nat) : Int) := d0; exact ROf_f w' ((p : Nat) : Int) HPI.out.1 HPI.out.2 })) ?_
  refine Rc (al al_Int) ?_
  exact RgAll.nil
 intro v W8 e1 hΦ _
 replace S := S.mono e1
 have h36 := hΦ 1 (by decide)
 obtain ⟨g11, v2, q6, b5, _⟩ := (hΦ 2 (by decide) : IsBo W7 1 (v 2) W8)
 replace S := S.addN 1 (ApartO.old hl.out q6) (Nat.le_trans hw q6) b5
 simp only [newF, List.cons_append, List.nil_append] at S
 simp only [layL, Act.put, uAx, u0x, u1x, Nat.reduceAdd]
 rw [v2]
 clear b5 hl hw v2 hΦ e1
 try simp only [List.drop_succ_cons, List.drop_zero]
 (with_reducible refine stL ?_ (by rfl)); intro KK hKK; refine stI S 0 (g11) 0 h36 st_Int (fun W9 S2 G2 => hKK _ _ ?_) rfl
 replace S := S2; clear S2 G2 hKK KK h36
 simp only [u0x] at S
 refine wpList_nil ?_
 go_upto_region 8 with (fail)
 have hl := hid S.lt; have hw := S.ext.size
 refine rgs 4 [some 37, some 38, some 39, some 12] [IsI 2 (((a : Nat) : Int)), IsI 2 (((p : Nat) : Int)), IsI 4 (((b : Nat) : Int)), IsBo W9 1] [3] ?_ ?_
 ·refine Rc (ldI S 1 (g10) 0 (Od.lit 10) ld_Int) ?_
  refine Rc (ldI S 0 (g11) 0 (Od.lit 11) ld_Int) ?_
  refine Rc (cl2 (en Tryz.func11) (Od.lc (Φ := IsI 2 (((a : Nat) : Int))) 0 37) (Od.lc (Φ := IsI 2 (((p : Nat) : Int))) 1 38) (fun x0 x1 w' hE d0 d1 => (by have hh := RMul_f d0 d1 (by decide) (by decide); rw [HB.out] at hh; exact hh))) ?_
  refine Rc (al al_Int) ?_
  exact RgAll.nil
 intro v W10 e1 hΦ _
 replace S := S.mono e1
 have h39 := hΦ 2 (by decide)
 obtain ⟨g12, v3, q8, b7, _⟩ := (hΦ 3 (by decide) : IsBo W9 1 (v 3) W10)
 replace S := S.addN 1 (ApartO.old hl.out q8) (Nat.le_trans hw q8) b7
 simp only [newF, List.cons_append, List.nil_append] at S
 simp only [layL, Act.put, uAx, u0x, u1x, Nat.reduceAdd]
 rw [v3]
 clear b7 hl hw v3 hΦ e1
 try simp only [List.drop_succ_cons, List.drop_zero]
 (with_reducible refine stL ?_ (by rfl)); intro KK hKK; refine stI S 0 (g12) 0 h39 st_Int (fun W11 S2 G2 => hKK _ _ ?_) rfl
 replace S := S2; clear S2 G2 hKK KK h39
 simp only [u0x] at S
 refine wpList_nil ?_
 go_upto_region 9 with (fail)
 refine rgs 4 [some 40, some 41, some 42, some 43] [IsI 2 (-((T : Nat) : Int)), IsI 4 (((b : Nat) : Int)), IsV (.int .i64 0), IsV (.bool false)] [] ?_ ?_
 ·refine Rc (ldI S 3 (g8) 0 (Od.lit 8) ld_Int) ?_
  refine Rc (ldI S 0 (g12) 0 (Od.lit 12) ld_Int) ?_
  refine Rc (cl2 (en Tryz.func9) (Od.lc (Φ := IsI 2 (-((T : Nat) : Int))) 0 40) (Od.lc (Φ := IsI 4 (((b : Nat) : Int))) 1 41) (fun x0 x1 w' hE d0 d1 => (by have hh := Refused_f d0 d1 (by decide) (by decide) HN.out HL.out; rw [HE.out] at hh; exact hh))) ?_
  refine Rc (bn (r := .bool false) (Od.loc 2 42) Od.con (hr := fun w => by go_simp)) ?_
  exact RgAll.nil
 intro v W12 e1 hΦ _
 replace S := S.mono e1
 have v3 : v 3 = .bool false := hΦ 3 (by decide)
 simp only [layL, Act.put, uAx, u0x, u1x, Nat.reduceAdd]
 rw [v3]
 clear v3 hΦ e1
 refine wpList_nil ?_
 go_upto_region 11 with (fail)
 refine rgs 8 [some 46, some 47, some 48, some 45, some 49, some 50, some 13, some 14] [IsI 2 (-((T : Nat) : Int)), IsI 2 (((a : Nat) : Int)), IsT2 (IsV (.int .i64 s)) (IsV (.int .i64 0)), IsT2 (IsV (.int .i64 s)) (IsV (.int .i64 0)), IsV (.int .i64 s), IsV (.int .i64 0), IsV (.int .i64 s), IsV (.int .i64 0)] [] ?_ ?_
 ·refine Rc (ldI S 3 (g8) 0 (Od.lit 8) ld_Int) ?_
  refine Rc (ldI S 2 (g10) 0 (Od.lit 10) ld_Int) ?_
  refine Rc (cl2 (en Tryz.func10) (Od.lc (Φ := IsI 2 (-((T : Nat) : Int))) 0 46) (Od.lc (Φ := IsI 2 (((a : Nat) : Int))) 1 47) (fun x0 x1 w' hE d0 d1 => (by have hh := Total_f d0 d1 ⟨by decide, by decide⟩ (hs.ext (S.ext.trans hE)) HN.out HL.out; rw [HTa.out.1, HTa.out.2] at hh; exact hh))) ?_
  refine Rc (mv (Od.lc 2 48)) ?_
  refine Rc (ex (Od.loc 3 45) t20) ?_
  refine Rc (ex (Od.loc 3 45) t21) ?_
  refine Rc (mv (Od.lc 4 49)) ?_
  refine Rc (mv (Od.lc 5 50)) ?_
  exact RgAll.nil
 intro v W13 e1 hΦ _
 replace S := S.mono e1
 have v6 : v 6 = .int .i64 s := hΦ 6 (by decide)
 have v7 : v 7 = .int .i64 0 := hΦ 7 (by decide)
 simp only [layL, Act.put, uAx, u0x, u1x, Nat.reduceAdd]
 rw [v6, v7]
 clear v6 v7 hΦ e1
 refine wpList_nil ?_
 go_upto_region 12 with (fail)
 refine rgs 8 [some 52, some 53, some 54, some 51, some 55, some 56, some 15, some 16] [IsI 2 (-((T : Nat) : Int)), IsI 4 (((b : Nat) : Int)), IsT2 (IsV (.int .i64 t)) (IsV (.int .i64 0)), IsT2 (IsV (.int .i64 t)) (IsV (.int .i64 0)), IsV (.int .i64 t), IsV (.int .i64 0), IsV (.int .i64 t), IsV (.int .i64 0)] [] ?_ ?_
 ·refine Rc (ldI S 3 (g8) 0 (Od.lit 8) ld_Int) ?_
  refine Rc (ldI S 0 (g12) 0 (Od.lit 12) ld_Int) ?_
  refine Rc (cl2 (en Tryz.func10) (Od.lc (Φ := IsI 2 (-((T : Nat) : Int))) 0 52) (Od.lc (Φ := IsI 4 (((b : Nat) : Int))) 1 53) (fun x0 x1 w' hE d0 d1 => (by have hh := Total_f d0 d1 ⟨by decide, by decide⟩ (hs.ext (S.ext.trans hE)) HN.out HL.out; rw [HTb.out.1, HTb.out.2] at hh; exact hh))) ?_
  refine Rc (mv (Od.lc 2 54)) ?_
  refine Rc (ex (Od.loc 3 51) t20) ?_
  refine Rc (ex (Od.loc 3 51) t21) ?_
  refine Rc (mv (Od.lc 4 55)) ?_
  refine Rc (mv (Od.lc 5 56)) ?_
  exact RgAll.nil
 intro v W14 e1 hΦ _
 replace S := S.mono e1
 have v6 : v 6 = .int .i64 t := hΦ 6 (by decide)
 have v7 : v 7 = .int .i64 0 := hΦ 7 (by decide)
 simp only [layL, Act.put, uAx, u0x, u1x, Nat.reduceAdd]
 rw [v6, v7]
 clear v6 v7 hΦ e1
 refine wpList_nil ?_
 go_upto_region 13 with (fail)
 refine rg 10 [some 58, some 59, some 60, some 61, some 62, some 57, some 63, some 64, some 17, some 18] [IsI 2 (-((T : Nat) : Int)), IsI 4 (((b : Nat) : Int)), IsI 2 (((p : Nat) : Int)), IsI 6 (((c : Nat) : Int)), IsT2 (IsV (.int .i64 u)) (IsV (.int .i64 0)), IsT2 (IsV (.int .i64 u)) (IsV (.int .i64 0)), IsV (.int .i64 u), IsV (.int .i64 0), IsV (.int .i64 u), IsV (.int .i64 0)] [] 0 ?_ ?_
 ·refine Rc (ldI S 3 (g8) 0 (Od.lit 8) ld_Int) ?_
  refine Rc (ldI S 0 (g12) 0 (Od.lit 12) ld_Int) ?_
  refine Rc (ldI S 1 (g11) 0 (Od.lit 11) ld_Int) ?_
  refine Rc (cl2 (en Tryz.func11) (Od.lc (Φ := IsI 4 (((b : Nat) : Int))) 1 59) (Od.lc (Φ := IsI 2 (((p : Nat) : Int))) 2 60) (fun x0 x1 w' hE d0 d1 => (by have hh := RMul_f d0 d1 (by decide) (by decide); rw [HC.out] at hh; exact hh))) ?_
  refine Rc (cl2 (en Tryz.func10) (Od.lc (Φ := IsI 2 (-((T : Nat) : Int))) 0 58) (Od.lc (Φ := IsI 6 (((c : Nat) : Int))) 3 61) (fun x0 x1 w' hE d0 d1 => (by have hh := Total_f d0 d1 ⟨by decide, by decide⟩ (hs.ext (S.ext.trans hE)) HN.out HL.out; rw [HTc.out.1, HTc.out.2] at hh; exact hh))) ?_
  refine Rc (mv (Od.lc 4 62)) ?_
  refine Rc (ex (Od.loc 5 57) t20) ?_
  refine Rc (ex (Od.loc 5 57) t21) ?_
  refine Rc (mv (Od.lc 6 63)) ?_
  refine Rc (mv (Od.lc 7 64)) ?_
  exact RgAll.nil
 intro v W15 e1 hΦ _
 replace S := S.mono e1
 have v8 : v 8 = .int .i64 u := hΦ 8 (by decide)
 have v9 : v 9 = .int .i64 0 := hΦ 9 (by decide)
 simp only [layL, Act.put, uAx, u0x, u1x, Nat.reduceAdd]
 rw [v8, v9]
 clear v8 v9 hΦ e1
 refine wpAny_done (by kernel_rfl) ?_ _
 go_upto_region 14 with (fail)
 refine rgs 9 [some 66, some 67, some 68, some 69, some 65, some 70, some 71, some 19, some 20] [IsI 2 (-((T : Nat) : Int)), IsI 2 (((p : Nat) : Int)), IsV (.int .i64 ((p : Nat) : Int)), IsT2 (IsV (.int .i64 o)) (IsV (.int .i64 0)), IsT2 (IsV (.int .i64 o)) (IsV (.int .i64 0)), IsV (.int .i64 o), IsV (.int .i64 0), IsV (.int .i64 o), IsV (.int .i64 0)] [] ?_ ?_
 ·refine Rc (ldI S 3 (g8) 0 (Od.lit 8) ld_Int) ?_
  refine Rc (ldI S 1 (g11) 0 (Od.lit 11) ld_Int) ?_
  refine Rc (mv (Od.lit 9)) ?_
  refine Rc (cl3 (en Tryz.func15) (Od.lc (Φ := IsI 2 (-((T : Nat) : Int))) 0 66) (Od.lc (Φ := IsI 2 (((p : Nat) : Int))) 1 67) (Od.lc (Φ := IsV (.int .i64 ((p : Nat) : Int))) 2 68) (fun x0 x1 x2 w' hE d0 d1 d2 => by { obtain rfl : x2 = .int .i64 ((p : Nat) : Int) := d2; exact (by have hh := Local_k (n := T) (L := L) (m := p) (p := p) (hid rfl) d0 d1 ⟨by decide, by decide⟩ (hs.ext (S.ext.trans hE)) HN.out HL.out HUp.out HMp.out.1 HPr.out HMp.out.2 HIs.out; rw [HO.out] at hh; exact hh) })) ?_
  refine Rc (mv (Od.lc 3 69)) ?_
  refine Rc (ex (Od.loc 4 65) t20) ?_
  refine Rc (ex (Od.loc 4 65) t21) ?_
  refine Rc (mv (Od.lc 5 70)) ?_
  refine Rc (mv (Od.lc 6 71)) ?_
  exact RgAll.nil
 intro v W16 e1 hΦ _
 replace S := S.mono e1
 have v7 : v 7 = .int .i64 o := hΦ 7 (by decide)
 have v8 : v 8 = .int .i64 0 := hΦ 8 (by decide)
 simp only [layL, Act.put, uAx, u0x, u1x, Nat.reduceAdd]
 rw [v7, v8]
 clear v7 v8 hΦ e1
 refine wpList_nil ?_
 go_upto_region 15 with (fail)
 rcases HF.out with ⟨h1, h2, h3⟩ | ⟨h1, h2, h3, h4, h5⟩ | ⟨h1, h2, h3⟩
 ·subst h1; subst h2; subst h3
  refine rgs 22 [some 72, some 73, some 74, some 75, some 76, some 77, some 78, some 79, some 80, some 81, some 82, some 83, some 84, some 85, some 86, some 87, some 88, some 89, some 90, some 91, some 92, some 93] [IsV (.int .i64 0), IsV (.bool false), IsV (.bool false), IsV (.int .i64 0), IsV (.bool false), IsV (.bool false), IsV (.bool false), IsV (.int .i64 0), IsV (.bool false), IsV (.bool false), IsV (.bool false), IsV (.int .i64 0), IsV (.bool false), IsV (.bool false), IsV (.bool false), IsV (.int .i64 1), IsV (.bool false), IsV (.bool false), IsV (.bool false), IsV (.int .i64 1), IsV (.bool false), IsV (.bool false)] [] ?_ ?_
  ·refine Rc (mv (Od.lit 14)) ?_
   refine Rc (bn (r := .bool false) (Od.loc 0 72) Od.con (hr := fun w => by go_simp)) ?_
   refine Rc (mv (Od.lc 1 73)) ?_
   refine RcG 2 74 false (mv (Od.lit 16)) ?_
   refine RcG 2 74 false (bn (r := .bool false) (Od.loc 3 75) Od.con (hr := fun w => by go_simp)) ?_
   refine Rc (pk (Od.loc 2 74) (Od.lc 4 76)) ?_
   refine Rc (mv (Od.lc 5 77)) ?_
   refine RcG 6 78 false (mv (Od.lit 18)) ?_
   refine RcG 6 78 false (bn (r := .bool false) (Od.loc 7 79) Od.con (hr := fun w => by go_simp)) ?_
   refine Rc (pk (Od.loc 6 78) (Od.lc 8 80)) ?_
   refine Rc (mv (Od.lc 9 81)) ?_
   refine RcG 10 82 false (mv (Od.lit 20)) ?_
   refine RcG 10 82 false (bn (r := .bool false) (Od.loc 11 83) Od.con (hr := fun w => by go_simp)) ?_
   refine Rc (pk (Od.loc 10 82) (Od.lc 12 84)) ?_
   refine Rc (mv (Od.lc 13 85)) ?_
   refine RcG 14 86 false (mv (Od.lit 19)) ?_
   refine RcG 14 86 false (bn (r := .bool false) (Od.loc 15 87) Od.con (hr := fun w => by go_simp)) ?_
   refine Rc (pk (Od.loc 14 86) (Od.lc 16 88)) ?_
   refine Rc (mv (Od.lc 17 89)) ?_
   refine RcG 18 90 false (mv (Od.lit 19)) ?_
   refine RcG 18 90 false (bn (r := .bool false) (Od.loc 19 91) Od.con (hr := fun w => by go_simp)) ?_
   refine Rc (pk (Od.loc 18 90) (Od.lc 20 92)) ?_
   exact RgAll.nil
  intro v W17 e1 hΦ _
  replace S := S.mono e1
  have v21 : v 21 = .bool false := hΦ 21 (by decide)
  simp only [layL, Act.put, uAx, u0x, u1x, Nat.reduceAdd]
  rw [v21]
  clear v21 hΦ e1
  refine wpList_nil ?_
  go_upto_region 17 with (fail)
  refine rgs 2 [some 94, some 95] [IsV (.int .i64 1), IsV (.bool true)] [] ?_ ?_
  ·refine Rc (mv (Od.lit 19)) ?_
   refine Rc (bn (r := .bool true) (Od.loc 0 94) Od.con (hr := fun w => by go_simp)) ?_
   exact RgAll.nil
  intro v W18 e1 hΦ _
  replace S := S.mono e1
  have v1 : v 1 = .bool true := hΦ 1 (by decide)
  simp only [layL, Act.put, uAx, u0x, u1x, Nat.reduceAdd]
  rw [v1]
  clear v1 hΦ e1
  refine wpList_nil ?_
  go_upto_region 18 with (fail)
  refine rgs 12 [some 96, some 97, some 98, some 99, some 100, some 101, some 102, some 103, some 104, some 105, some 106, some 6] [IsV (.bool true), IsV (.bool true), IsV (.int .i64 s), IsV (.int .i64 s), IsV (.bool true), IsV (.bool true), IsV (.bool true), IsV (.int .i64 s), IsV (.int .i64 s), IsV (.bool true), IsV (.bool true), IsV (.bool true)] [] ?_ ?_
  ·refine Rc (mv (Od.lit 7)) ?_
   refine Rc (mv (Od.lc 0 96)) ?_
   refine RcG 1 97 true (mv (Od.lit 15)) ?_
   refine RcG 1 97 true (mv (Od.lit 13)) ?_
   refine RcG 1 97 true (bn (r := .bool true) (Od.loc 2 98) (Od.loc 3 99) (hr := fun w => by go_simp)) ?_
   refine Rc (pk (Od.loc 1 97) (Od.lc 4 100)) ?_
   refine Rc (mv (Od.lc 5 101)) ?_
   refine RcG 6 102 true (mv (Od.lit 17)) ?_
   refine RcG 6 102 true (mv (Od.lit 13)) ?_
   refine RcG 6 102 true (bn (r := .bool true) (Od.loc 7 103) (Od.loc 8 104) (hr := fun w => by go_simp)) ?_
   refine Rc (pk (Od.loc 6 102) (Od.lc 9 105)) ?_
   refine Rc (mv (Od.lc 10 106)) ?_
   exact RgAll.nil
  intro v W19 e1 hΦ _
  replace S := S.mono e1
  have v11 : v 11 = .bool true := hΦ 11 (by decide)
  simp only [layL, Act.put, uAx, u0x, u1x, Nat.reduceAdd]
  rw [v11]
  clear v11 hΦ e1
  refine wpList_nil ?_
  go_wp2_with fail
  exact bodyPost_ret (v := .bool true) (by simp [results, Tryz.results4, go_sem]) rfl (⟨_, rfl, S.ext, rfl⟩)
 ·subst h1
  have h2 := hid h2; have h3 := hid h3; have h4 := hid h4; have h5 := hid h5
  refine rgs 22 [some 72, some 73, some 74, some 75, some 76, some 77, some 78, some 79, some 80, some 81, some 82, some 83, some 84, some 85, some 86, some 87, some 88, some 89, some 90, some 91, some 92, some 93] [IsV (.int .i64 0), IsV (.bool false), IsV (.bool false), IsV (.int .i64 0), IsV (.bool false), IsV (.bool false), IsV (.bool false), IsV (.int .i64 0), IsV (.bool false), IsV (.bool false), IsV (.bool false), IsV (.int .i64 0), IsV (.bool false), IsV (.bool false), IsV (.bool false), IsV (.int .i64 2), IsV (.bool false), IsV (.bool false), IsV (.bool false), IsV (.int .i64 2), IsV (.bool false), IsV (.bool false)] [] ?_ ?_
  ·refine Rc (mv (Od.lit 14)) ?_
   refine Rc (bn (r := .bool false) (Od.loc 0 72) Od.con (hr := fun w => by go_simp)) ?_
   refine Rc (mv (Od.lc 1 73)) ?_
   refine RcG 2 74 false (mv (Od.lit 16)) ?_
   refine RcG 2 74 false (bn (r := .bool false) (Od.loc 3 75) Od.con (hr := fun w => by go_simp)) ?_
   refine Rc (pk (Od.loc 2 74) (Od.lc 4 76)) ?_
   refine Rc (mv (Od.lc 5 77)) ?_
   refine RcG 6 78 false (mv (Od.lit 18)) ?_
   refine RcG 6 78 false (bn (r := .bool false) (Od.loc 7 79) Od.con (hr := fun w => by go_simp)) ?_
   refine Rc (pk (Od.loc 6 78) (Od.lc 8 80)) ?_
   refine Rc (mv (Od.lc 9 81)) ?_
   refine RcG 10 82 false (mv (Od.lit 20)) ?_
   refine RcG 10 82 false (bn (r := .bool false) (Od.loc 11 83) Od.con (hr := fun w => by go_simp)) ?_
   refine Rc (pk (Od.loc 10 82) (Od.lc 12 84)) ?_
   refine Rc (mv (Od.lc 13 85)) ?_
   refine RcG 14 86 false (mv (Od.lit 19)) ?_
   refine RcG 14 86 false (bn (r := .bool false) (Od.loc 15 87) Od.con (hr := fun w => by go_simp)) ?_
   refine Rc (pk (Od.loc 14 86) (Od.lc 16 88)) ?_
   refine Rc (mv (Od.lc 17 89)) ?_
   refine RcG 18 90 false (mv (Od.lit 19)) ?_
   refine RcG 18 90 false (bn (r := .bool false) (Od.loc 19 91) Od.con (hr := fun w => by go_simp)) ?_
   refine Rc (pk (Od.loc 18 90) (Od.lc 20 92)) ?_
   exact RgAll.nil
  intro v W20 e1 hΦ _
  replace S := S.mono e1
  have v21 : v 21 = .bool false := hΦ 21 (by decide)
  simp only [layL, Act.put, uAx, u0x, u1x, Nat.reduceAdd]
  rw [v21]
  clear v21 hΦ e1
  refine wpList_nil ?_
  go_upto_region 17 with (fail)
  refine rgs 2 [some 94, some 95] [IsV (.int .i64 2), IsV (.bool false)] [] ?_ ?_
  ·refine Rc (mv (Od.lit 19)) ?_
   refine Rc (bn (r := .bool false) (Od.loc 0 94) Od.con (hr := fun w => by go_simp)) ?_
   exact RgAll.nil
  intro v W21 e1 hΦ _
  replace S := S.mono e1
  have v1 : v 1 = .bool false := hΦ 1 (by decide)
  simp only [layL, Act.put, uAx, u0x, u1x, Nat.reduceAdd]
  rw [v1]
  clear v1 hΦ e1
  refine wpList_nil ?_
  go_upto_region 19 with (fail)
  refine rgs 2 [some 107, some 108] [IsV (.int .i64 2), IsV (.bool true)] [] ?_ ?_
  ·refine Rc (mv (Od.lit 19)) ?_
   refine Rc (bn (r := .bool true) (Od.loc 0 107) Od.con (hr := fun w => by go_simp)) ?_
   exact RgAll.nil
  intro v W22 e1 hΦ _
  replace S := S.mono e1
  have v1 : v 1 = .bool true := hΦ 1 (by decide)
  simp only [layL, Act.put, uAx, u0x, u1x, Nat.reduceAdd]
  rw [v1]
  clear v1 hΦ e1
  refine wpList_nil ?_
  go_upto_region 20 with (fail)
  refine rgs 21 [some 109, some 110, some 111, some 112, some 113, some 114, some 115, some 116, some 117, some 118, some 119, some 120, some 121, some 122, some 123, some 124, some 125, some 126, some 127, some 128, some 6] [IsV (.bool true), IsV (.bool true), IsV (.int .i64 t), IsV (.int .i64 s), IsV (.bool true), IsV (.bool true), IsV (.bool true), IsV (.int .i64 u), IsV (.int .i64 t), IsV (.bool true), IsV (.bool true), IsV (.bool true), IsV (.int .i64 u), IsV (.int .i64 t), IsV (.int .i64 r), IsV (.int .i64 t), IsV (.int .i64 s), IsV (.int .i64 r), IsV (.bool true), IsV (.bool true), IsV (.bool true)] [] ?_ ?_
  ·refine Rc (mv (Od.lit 7)) ?_
   refine Rc (mv (Od.lc 0 109)) ?_
   refine RcG 1 110 true (mv (Od.lit 15)) ?_
   refine RcG 1 110 true (mv (Od.lit 13)) ?_
   refine RcG 1 110 true (bn (r := .bool true) (Od.loc 2 111) (Od.loc 3 112) (hr := fun w => by have hx9 := h2.out; go_simp)) ?_
   refine Rc (pk (Od.loc 1 110) (Od.lc 4 113)) ?_
   refine Rc (mv (Od.lc 5 114)) ?_
   refine RcG 6 115 true (mv (Od.lit 17)) ?_
   refine RcG 6 115 true (mv (Od.lit 15)) ?_
   refine RcG 6 115 true (bn (r := .bool true) (Od.loc 7 116) (Od.loc 8 117) (hr := fun w => by have hx9 := h3.out; go_simp)) ?_
   refine Rc (pk (Od.loc 6 115) (Od.lc 9 118)) ?_
   refine Rc (mv (Od.lc 10 119)) ?_
   refine RcG 11 120 true (mv (Od.lit 17)) ?_
   refine RcG 11 120 true (mv (Od.lit 15)) ?_
   refine RcG 11 120 true (bn (r := .int .i64 r) (Od.loc 12 121) (Od.loc 13 122) (hr := fun w => by have hx9 := h4.out; go_simp)) ?_
   refine RcG 11 120 true (mv (Od.lit 15)) ?_
   refine RcG 11 120 true (mv (Od.lit 13)) ?_
   refine RcG 11 120 true (bn (r := .int .i64 r) (Od.loc 15 124) (Od.loc 16 125) (hr := fun w => by have hx9 := h5.out; go_simp)) ?_
   refine RcG 11 120 true (bn (r := .bool true) (Od.loc 14 123) (Od.loc 17 126) (hr := fun w => by go_simp)) ?_
   refine Rc (pk (Od.loc 11 120) (Od.lc 18 127)) ?_
   refine Rc (mv (Od.lc 19 128)) ?_
   exact RgAll.nil
  intro v W23 e1 hΦ _
  replace S := S.mono e1
  have v20 : v 20 = .bool true := hΦ 20 (by decide)
  simp only [layL, Act.put, uAx, u0x, u1x, Nat.reduceAdd]
  rw [v20]
  clear v20 hΦ e1
  refine wpList_nil ?_
  go_wp2_with fail
  exact bodyPost_ret (v := .bool true) (by simp [results, Tryz.results4, go_sem]) rfl (⟨_, rfl, S.ext, rfl⟩)
 ·subst h1; subst h2
  refine rgs 22 [some 72, some 73, some 74, some 75, some 76, some 77, some 78, some 79, some 80, some 81, some 82, some 83, some 84, some 85, some 86, some 87, some 88, some 89, some 90, some 91, some 92, some 93] [IsV (.int .i64 0), IsV (.bool false), IsV (.bool false), IsV (.int .i64 0), IsV (.bool false), IsV (.bool false), IsV (.bool false), IsV (.int .i64 0), IsV (.bool false), IsV (.bool false), IsV (.bool false), IsV (.int .i64 0), IsV (.bool false), IsV (.bool false), IsV (.bool false), IsV (.int .i64 0), IsV (.bool false), IsV (.bool false), IsV (.bool false), IsV (.int .i64 0), IsV (.bool false), IsV (.bool false)] [] ?_ ?_
  ·refine Rc (mv (Od.lit 14)) ?_
   refine Rc (bn (r := .bool false) (Od.loc 0 72) Od.con (hr := fun w => by go_simp)) ?_
   refine Rc (mv (Od.lc 1 73)) ?_
   refine RcG 2 74 false (mv (Od.lit 16)) ?_
   refine RcG 2 74 false (bn (r := .bool false) (Od.loc 3 75) Od.con (hr := fun w => by go_simp)) ?_
   refine Rc (pk (Od.loc 2 74) (Od.lc 4 76)) ?_
   refine Rc (mv (Od.lc 5 77)) ?_
   refine RcG 6 78 false (mv (Od.lit 18)) ?_
   refine RcG 6 78 false (bn (r := .bool false) (Od.loc 7 79) Od.con (hr := fun w => by go_simp)) ?_
   refine Rc (pk (Od.loc 6 78) (Od.lc 8 80)) ?_
   refine Rc (mv (Od.lc 9 81)) ?_
   refine RcG 10 82 false (mv (Od.lit 20)) ?_
   refine RcG 10 82 false (bn (r := .bool false) (Od.loc 11 83) Od.con (hr := fun w => by go_simp)) ?_
   refine Rc (pk (Od.loc 10 82) (Od.lc 12 84)) ?_
   refine Rc (mv (Od.lc 13 85)) ?_
   refine RcG 14 86 false (mv (Od.lit 19)) ?_
   refine RcG 14 86 false (bn (r := .bool false) (Od.loc 15 87) Od.con (hr := fun w => by go_simp)) ?_
   refine Rc (pk (Od.loc 14 86) (Od.lc 16 88)) ?_
   refine Rc (mv (Od.lc 17 89)) ?_
   refine RcG 18 90 false (mv (Od.lit 19)) ?_
   refine RcG 18 90 false (bn (r := .bool false) (Od.loc 19 91) Od.con (hr := fun w => by go_simp)) ?_
   refine Rc (pk (Od.loc 18 90) (Od.lc 20 92)) ?_
   exact RgAll.nil
  intro v W24 e1 hΦ _
  replace S := S.mono e1
  have v21 : v 21 = .bool false := hΦ 21 (by decide)
  simp only [layL, Act.put, uAx, u0x, u1x, Nat.reduceAdd]
  rw [v21]
  clear v21 hΦ e1
  refine wpList_nil ?_
  go_upto_region 17 with (fail)
  refine rgs 2 [some 94, some 95] [IsV (.int .i64 0), IsV (.bool false)] [] ?_ ?_
  ·refine Rc (mv (Od.lit 19)) ?_
   refine Rc (bn (r := .bool false) (Od.loc 0 94) Od.con (hr := fun w => by go_simp)) ?_
   exact RgAll.nil
  intro v W25 e1 hΦ _
  replace S := S.mono e1
  have v1 : v 1 = .bool false := hΦ 1 (by decide)
  simp only [layL, Act.put, uAx, u0x, u1x, Nat.reduceAdd]
  rw [v1]
  clear v1 hΦ e1
  refine wpList_nil ?_
  go_upto_region 19 with (fail)
  refine rgs 2 [some 107, some 108] [IsV (.int .i64 0), IsV (.bool false)] [] ?_ ?_
  ·refine Rc (mv (Od.lit 19)) ?_
   refine Rc (bn (r := .bool false) (Od.loc 0 107) Od.con (hr := fun w => by go_simp)) ?_
   exact RgAll.nil
  intro v W26 e1 hΦ _
  replace S := S.mono e1
  have v1 : v 1 = .bool false := hΦ 1 (by decide)
  simp only [layL, Act.put, uAx, u0x, u1x, Nat.reduceAdd]
  rw [v1]
  clear v1 hΦ e1
  refine wpList_nil ?_
  go_upto_region 21 with (fail)
  by_cases h4 : s = 0
  ·subst h4
   refine rgs 15 [some 129, some 130, some 131, some 132, some 133, some 134, some 135, some 136, some 137, some 138, some 139, some 140, some 141, some 142, some 6] [IsV (.bool true), IsV (.bool true), IsV (.int .i64 0), IsV (.int .i64 0), IsV (.bool true), IsV (.bool true), IsV (.bool true), IsV (.int .i64 0), IsV (.bool true), IsV (.bool true), IsV (undef), IsV (undef), IsV (.bool true), IsV (.bool true), IsV (.bool true)] [] ?_ ?_
   ·refine Rc (mv (Od.lit 7)) ?_
    refine Rc (mv (Od.lc 0 129)) ?_
    refine RcG 1 130 true (mv (Od.lit 17)) ?_
    refine RcG 1 130 true (mv (Od.lit 13)) ?_
    refine RcG 1 130 true (bn (r := .bool true) (Od.loc 2 131) (Od.loc 3 132) (hr := fun w => by go_simp)) ?_
    refine Rc (pk (Od.loc 1 130) (Od.lc 4 133)) ?_
    refine Rc (mv (Od.lc 5 134)) ?_
    refine RcG 6 135 true (mv (Od.lit 13)) ?_
    refine RcG 6 135 true (bn (r := .bool true) (Od.loc 7 136) Od.con (hr := fun w => by go_simp)) ?_
    refine RcG 6 135 true (mv (Od.lc 8 137)) ?_
    refine RcN 9 138 true ?_
    refine RcN 9 138 true ?_
    refine RcG 6 135 true (pk (Od.loc 9 138) Od.con) ?_
    refine Rc (pk (Od.loc 6 135) (Od.lc 12 141)) ?_
    refine Rc (mv (Od.lc 13 142)) ?_
    exact RgAll.nil
   intro v W27 e1 hΦ _
   replace S := S.mono e1
   have v14 : v 14 = .bool true := hΦ 14 (by decide)
   simp only [layL, Act.put, uAx, u0x, u1x, Nat.reduceAdd]
   rw [v14]
   clear v14 hΦ e1
   refine wpList_nil ?_
   go_wp2_with fail
   exact bodyPost_ret (v := .bool true) (by simp [results, Tryz.results4, go_sem]) rfl (⟨_, rfl, S.ext, rfl⟩)
  ·obtain rfl : t = 0 := h3.resolve_left h4
   have h4 := hid h4
   refine rgs 15 [some 129, some 130, some 131, some 132, some 133, some 134, some 135, some 136, some 137, some 138, some 139, some 140, some 141, some 142, some 6] [IsV (.bool true), IsV (.bool true), IsV (.int .i64 s), IsV (.int .i64 s), IsV (.bool true), IsV (.bool true), IsV (.bool true), IsV (.int .i64 s), IsV (.bool false), IsV (.bool false), IsV (.int .i64 0), IsV (.bool true), IsV (.bool true), IsV (.bool true), IsV (.bool true)] [] ?_ ?_
   ·refine Rc (mv (Od.lit 7)) ?_
    refine Rc (mv (Od.lc 0 129)) ?_
    refine RcG 1 130 true (mv (Od.lit 17)) ?_
    refine RcG 1 130 true (mv (Od.lit 13)) ?_
    refine RcG 1 130 true (bn (r := .bool true) (Od.loc 2 131) (Od.loc 3 132) (hr := fun w => by go_simp)) ?_
    refine Rc (pk (Od.loc 1 130) (Od.lc 4 133)) ?_
    refine Rc (mv (Od.lc 5 134)) ?_
    refine RcG 6 135 true (mv (Od.lit 13)) ?_
    refine RcG 6 135 true (bn (r := .bool false) (Od.loc 7 136) Od.con (hr := fun w => by have hx9 := h4.out; go_simp)) ?_
    refine RcG 6 135 true (mv (Od.lc 8 137)) ?_
    refine RcG 9 138 false (mv (Od.lit 15)) ?_
    refine RcG 9 138 false (bn (r := .bool true) (Od.loc 10 139) Od.con (hr := fun w => by go_simp)) ?_
    refine RcG 6 135 true (pk (Od.loc 9 138) (Od.lc 11 140)) ?_
    refine Rc (pk (Od.loc 6 135) (Od.lc 12 141)) ?_
    refine Rc (mv (Od.lc 13 142)) ?_
    exact RgAll.nil
   intro v W28 e1 hΦ _
   replace S := S.mono e1
   have v14 : v 14 = .bool true := hΦ 14 (by decide)
   simp only [layL, Act.put, uAx, u0x, u1x, Nat.reduceAdd]
   rw [v14]
   clear v14 hΦ e1
   refine wpList_nil ?_
   go_wp2_with fail
   exact bodyPost_ret (v := .bool true) (by simp [results, Tryz.results4, go_sem]) rfl (⟨_, rfl, S.ext, rfl⟩)

end Go.Proofs.YtknlaadcbhhbfaaGreatDoor
