/-
 The examples of the law: rows of one element; eval at a named value.
 The examples of the law: operations. (Printed by wip/gen/exam43.py.)
-/
import Derived.Test.YtkeikfekkdplgaaGreatDoorEv25
import Derived.Test.YtkeikfekkdplgaaGreatDoorEvL
namespace Go.Proofs.YtkeikfekkdplgaaGreatDoor
open Go Go.RowKit Go.Maps Go.Shelf

attribute [local go_sem] Oper.semAt_some
theorem ix_str1 (g c : Nat) (w : World) : (Instr.indexAt 51 (.slice (some ⟨g, 0, none⟩) 1 c) (.int .i64 0)).run Tryz.prog w = .ok (.pointer (some ⟨g, 0, none⟩)) w := by go_simp
theorem ix_int1 (g c : Nat) (w : World) : (Instr.indexAt 41 (.slice (some ⟨g, 0, none⟩) 1 c) (.int .i64 0)).run Tryz.prog w = .ok (.pointer (some ⟨g, 0, none⟩)) w := by go_simp
set_option maxRecDepth 100000 in
theorem names_f {w : World} {g h c d : Nat} {x : ByteArray} (c1 : World.cell? w ⟨g, 0, none⟩ = some (.string x)) (c2 : World.cell? w ⟨h, 0, none⟩ = some (.string x)) : Calls Tryz.prog 24 #[.slice (some ⟨g, 0, none⟩) 1 c, .slice (some ⟨h, 0, none⟩) 1 d] w (Ret w (IsV (.bool true))) := by
 go_enter Tryz.func24, Tryz.ntmps24
 go_wp2
 refine wp_loop_rounds 2 ?_
 rw [rounds_succ]
 go_upto_region 6 with (fail)
 refine rg 9 [some 17, some 18, some 19, some 20, some 21, some 22, some 23, some 24, some 25] [IsV (.slice (some ⟨g, 0, none⟩) 1 c), IsV (.int .i64 0), IsV (.pointer (some ⟨g, 0, none⟩)), IsV (.string x), IsV (.slice (some ⟨h, 0, none⟩) 1 d), IsV (.int .i64 0), IsV (.pointer (some ⟨h, 0, none⟩)), IsV (.string x), IsV (.bool false)] [] 0 ?_ ?_ (hst := by repeat' (first | exact trivial | exact IsV.stb _ | apply And.intro))
 ·refine Rc (mv (Od.lit 0)) ?_
  refine Rc (mv (Od.lit (x := .int .i64 0) 5)) ?_
  refine Rc (ixq (ix_str1 g c) (Od.lc 0 17) (Od.lc 1 18)) ?_
  refine Rc (lv (Φ := IsV (.string x)) _ (fun w' e => ld_str w' _ _ (e.cell c1)) (Od.lc 2 19) (fun _ _ => rfl)) ?_
  refine Rc (mv (Od.lit 1)) ?_
  refine Rc (mv (Od.lit (x := .int .i64 0) 5)) ?_
  refine Rc (ixq (ix_str1 h d) (Od.lc 4 21) (Od.lc 5 22)) ?_
  refine Rc (lv (Φ := IsV (.string x)) _ (fun w' e => ld_str w' _ _ (e.cell c2)) (Od.lc 6 23) (fun _ _ => rfl)) ?_
  refine Rc (bn (r := .bool false) (Od.lc (Φ := IsV (.string x)) 3 20) (Od.lc (Φ := IsV (.string x)) 7 24) (hr := fun w => by go_simp)) ?_
  exact RgAll.nil
 intro v X1 e1 hΦ _
 simp only [layL, Act.put, uAx, u0x, u1x, Nat.reduceAdd]
 rw [show v 8 = .bool false from hΦ 8 (by decide)]
 clear hΦ
 refine wpAny_done (by kernel_rfl) ?_ _
 go_wp2_with fail
 rw [rounds_succ]
 go_wp2_with fail
 go_ret
 exact ⟨_, rfl, e1, rfl⟩
set_option maxRecDepth 100000 in
theorem ints_f {w : World} {g h c d : Nat} {x : Int} (c1 : World.cell? w ⟨g, 0, none⟩ = some (.int .i64 x)) (c2 : World.cell? w ⟨h, 0, none⟩ = some (.int .i64 x)) : Calls Tryz.prog 44 #[.slice (some ⟨g, 0, none⟩) 1 c, .slice (some ⟨h, 0, none⟩) 1 d] w (Ret w (IsV (.bool true))) := by
 go_enter Tryz.func44, Tryz.ntmps44
 go_wp2
 refine wp_loop_rounds 2 ?_
 rw [rounds_succ]
 go_upto_region 6 with (fail)
 refine rg 9 [some 17, some 18, some 19, some 20, some 21, some 22, some 23, some 24, some 25] [IsV (.slice (some ⟨g, 0, none⟩) 1 c), IsV (.int .i64 0), IsV (.pointer (some ⟨g, 0, none⟩)), IsV (.int .i64 x), IsV (.slice (some ⟨h, 0, none⟩) 1 d), IsV (.int .i64 0), IsV (.pointer (some ⟨h, 0, none⟩)), IsV (.int .i64 x), IsV (.bool false)] [] 0 ?_ ?_ (hst := by repeat' (first | exact trivial | exact IsV.stb _ | apply And.intro))
 ·refine Rc (mv (Od.lit 0)) ?_
  refine Rc (mv (Od.lit (x := .int .i64 0) 5)) ?_
  refine Rc (ixq (ix_int1 g c) (Od.lc 0 17) (Od.lc 1 18)) ?_
  refine Rc (lv (Φ := IsV (.int .i64 x)) _ (fun w' e => ld_i w' _ _ (e.cell c1)) (Od.lc 2 19) (fun _ _ => rfl)) ?_
  refine Rc (mv (Od.lit 1)) ?_
  refine Rc (mv (Od.lit (x := .int .i64 0) 5)) ?_
  refine Rc (ixq (ix_int1 h d) (Od.lc 4 21) (Od.lc 5 22)) ?_
  refine Rc (lv (Φ := IsV (.int .i64 x)) _ (fun w' e => ld_i w' _ _ (e.cell c2)) (Od.lc 6 23) (fun _ _ => rfl)) ?_
  refine Rc (bn (r := .bool false) (Od.lc (Φ := IsV (.int .i64 x)) 3 20) (Od.lc (Φ := IsV (.int .i64 x)) 7 24) (hr := fun w => by go_simp)) ?_
  exact RgAll.nil
 intro v X1 e1 hΦ _
 simp only [layL, Act.put, uAx, u0x, u1x, Nat.reduceAdd]
 rw [show v 8 = .bool false from hΦ 8 (by decide)]
 clear hΦ
 refine wpAny_done (by kernel_rfl) ?_ _
 go_wp2_with fail
 rw [rounds_succ]
 go_wp2_with fail
 go_ret
 exact ⟨_, rfl, e1, rfl⟩
/-! ### eval at a named value -/
theorem Fit.up {H : Nat} {x : ByteArray} {vv : Int} {gr : Value} {hs : List Value} {w w' w2 : World} {h : Nat} (F : Fit H x vv gr hs w) (e : Ext w w') (R : Rm h w' w2) (hH : H ≤ w.heap.size) (hh : w.heap.size ≤ h) : Fit h x vv gr hs w2 := by
 obtain ⟨h1, gv, gh, gg, cg, s, a, n, c, h2, h3, h4, h5, h6, h7, h8, h9, h10, h11, h12⟩ := F
 have hg := World.block_lt_of_cell? w _ h3
 have up : ∀ {p : Addr} {v : Value}, World.cell? w p = some v → World.cell? w2 p = some v := fun hc => R.cell (e.cell hc) (.inl (Nat.lt_of_lt_of_le (World.block_lt_of_cell? w _ hc) hh))
 exact ⟨h1, gv, gh, gg, cg, s, a, n, c, h2, up h3, up h4, by omega, by omega, h7, up h8, up h9, IsI.gstb _ _ _ _ _ R.gr (h10.ext e), h11, up h12⟩
theorem HsR.up {o : Option (List Value)} {v : Value} {w w' w2 : World} {h : Nat} (H : HsR o v w) (e : Ext w w') (R : Rm h w' w2) (hh : w.heap.size ≤ h) : HsR o v w2 := by
 cases o with
 | none => exact H
 | some hs =>
  obtain ⟨g, c, h1, h2, h3⟩ := H
  exact ⟨g, c, h1, R.bk (h2.ext e) (.inl (Nat.lt_of_lt_of_le h2.lt hh)), h3⟩
theorem evhV {w : World} {us : List Value} {x : ByteArray} {sa ga : Option Addr} {sn sc gn gc s0 : Nat} {o : Option (List Value)} {vv : Int} (hx : x.size ≤ maxLen) (hn : IsNd w.heap.size (.val x 0) us w) (hv : HsR o (.slice sa sn sc) w) (HF : ∀ hs, o = some hs → Fit w.heap.size x vv (.slice ga gn gc) hs w) :
  EvH w us none none sa ga 0 0 0 0 sn sc gn gc s0 (bif o.isSome then .ok ⟨vv, vv, true⟩ else .error 6) s0 [x] (bif o.isSome then [2] else []) := by
 obtain ⟨s, a, n, c, lo, hi, A, rfl⟩ := hn
 intro h w' h1 h2 h3 h4 h5
 have := eval_val (m := ⟨h, .slice none 0 0, .slice none 0 0, .slice sa sn sc, .slice ga gn gc⟩) (st := (s0, ([], []))) (x := x) (kk := 0) (s := s) (a := a) (n := n) (c := c) (lo := lo) (hi := hi) (A := A) (ve := .slice none 0 0) (rr := (bif o.isSome then (.ok ⟨vv, vv, true⟩, (s0, ([x], [2]))) else (.error 6, (s0, ([x], []))))) (JJ.inv h) h5 h3 h4 (fun w2 R M j hsz => value_w (b := o.isSome) (vv := vv) (hp := 2) hx (by show h + 3 ≤ w2.heap.size; omega) M j (by decide) (hid (fun w3 R3 => best_f (by show h ≤ w3.heap.size; have := R3.size; omega) (hv.up h2 (R.trans R3) h1) (fun hs hq => (HF hs hq).up h2 (R.trans R3) (Nat.le_refl _) h1))))
 cases o <;> exact this
end Go.Proofs.YtkeikfekkdplgaaGreatDoor
namespace Go.Proofs.YtkeikfekkdplgaaGreatDoor
open Go Go.RowKit Go.Maps Go.Shelf

attribute [local go_sem] Oper.semAt_some
section
variable {ops : Array Oper} {Q : Exit → Act → World → Prop} {ds : List (Option Tmp)} {a0 : Act} {w0 : World} {L : List (Value → World → Prop)} {boxes : List Nat} {i k : Nat} {o : Oper} {os : List Oper}
theorem bdCell {x : ByteArray} (ho : o.op = .build 31 #[(0, .const (.int .i64 2)), (1, .const (.string x))] := by rfl) (hi : L.getD i (fun _ _ => True) = IsNe (.cell x) := by kernel_rfl) (hb : boxes.contains i = false := by kernel_rfl) : Ok Tryz.prog ops Q ds a0 w0 L boxes i o :=
 Ok.of hb fun v a w hE hd hf => by
  have hr : (Instr.build 31 #[(0, .int .i64 2), (1, .string x)]).run Tryz.prog w = .ok (.agg #[.int .i64 2, .string x, .int .i64 0, .bool false, .slice none 0 0, .int .i64 0, .int .i64 0, .slice none 0 0]) w := by go_simp
  exact ⟨_, bdG ho (by simp only [List.map_toArray, List.map_cons, List.map_nil]; exact hr), by rw [hi]; exact ⟨_, rfl, rfl, rfl, nwNd, _, _, _, _, _, _, _, _, rfl⟩⟩
theorem bdVal {x : ByteArray} (ho : o.op = .build 31 #[(0, .const (.int .i64 3)), (1, .const (.string x))] := by rfl) (hi : L.getD i (fun _ _ => True) = IsNe (.val x 0) := by kernel_rfl) (hb : boxes.contains i = false := by kernel_rfl) : Ok Tryz.prog ops Q ds a0 w0 L boxes i o :=
 Ok.of hb fun v a w hE hd hf => by
  have hr : (Instr.build 31 #[(0, .int .i64 3), (1, .string x)]).run Tryz.prog w = .ok (.agg #[.int .i64 3, .string x, .int .i64 0, .bool false, .slice none 0 0, .int .i64 0, .int .i64 0, .slice none 0 0]) w := by go_simp
  exact ⟨_, bdG ho (by simp only [List.map_toArray, List.map_cons, List.map_nil]; exact hr), by rw [hi]; exact ⟨_, rfl, rfl, rfl, nwNd, _, _, _, _, _, _, _, rfl⟩⟩
theorem OutAt.err {n : Int} {left g : Nat} {rd : List ByteArray} {hy : List Int} {W : World} (h : OutAt (.error n) left rd hy g W) : World.cell? W ⟨g, 10, none⟩ = some (.int .i64 n) := by
 obtain ⟨⟨vl, ha, hn, hc, h1, h2, h3, -⟩, -, -⟩ := h
 have h3 : Value.agg vl.toArray = .agg #[.bool false, .slice none 0 0, .bool false, .slice none 0 0, .bool false, .slice none 0 0, .bool false, .slice none 0 0, .bool true, .slice ha hn hc, .int .i64 n] := h3
 injection h3 with h3
 have h4 : vl = _ := congrArg Array.toList h3
 rw [h4] at h2
 exact h2 10 _ rfl
theorem OutAt.rd1 {res : Res Kn} {x : ByteArray} {left g : Nat} {hy : List Int} {W : World} (h : OutAt res left [x] hy g W) : ∃ gn cn, World.cell? W ⟨g, 11, none⟩ = some (.slice (some ⟨gn, 0, none⟩) 1 cn) ∧ World.cell? W ⟨gn, 0, none⟩ = some (.string x) := by
 obtain ⟨-, ⟨ra, rn, rc, h1, g1, c1, h2, -, -, h3⟩, -⟩ := h
 rw [h2] at h1
 exact ⟨g1, c1, h1, h3⟩
theorem OutAt.hy1 {q : Kn} {z : Int} {left g : Nat} {rd : List ByteArray} {W : World} (h : OutAt (.ok q) left rd [z] g W) : ∃ gn cn, World.cell? W ⟨g, 9, none⟩ = some (.slice (some ⟨gn, 0, none⟩) 1 cn) ∧ World.cell? W ⟨gn, 0, none⟩ = some (.int .i64 z) := by
 obtain ⟨⟨vl, ha, hn, hc, h1, h2, h3, g1, c1, h4, -, -, h5⟩, -, -⟩ := h
 obtain ⟨s1, a1, n1, c1', s2, a2, n2, c2, s3, a3, n3, c3, s4, a4, n4, c4, h3, -, -⟩ := h3
 injection h3 with h3
 have h6 : vl = _ := congrArg Array.toList h3
 rw [h6, h4] at h2
 exact ⟨g1, c1, h2 9 _ rfl, h5⟩
theorem ldErr {n : Int} {left g : Nat} {rd : List ByteArray} {hy : List Int} {x : Operand} (h : OutAt (.error n) left rd hy g w0) (hx : Od ops ds a0 w0 L i x (IsV (.pointer (some ⟨g, 10, none⟩)))) (ho : o.op = .load 48 x := by rfl) (hi : L.getD i (fun _ _ => True) = IsV (.int .i64 n) := by kernel_rfl) (hb : boxes.contains i = false := by kernel_rfl) : Ok Tryz.prog ops Q ds a0 w0 L boxes i o :=
 lv _ (fun w e => ld_e w _ _ (e.cell h.err)) hx (fun _ _ => rfl) ho hi hb
/-! Literal rows -/
def IsS1 (x : ByteArray) (v : Value) (w : World) : Prop := ∃ g, v = .slice (some ⟨g, 0, none⟩) 1 1 ∧ World.cell? w ⟨g, 0, none⟩ = some (.string x)
def IsI1 (z : Int) (v : Value) (w : World) : Prop := ∃ g, v = .slice (some ⟨g, 0, none⟩) 1 1 ∧ World.cell? w ⟨g, 0, none⟩ = some (.int .i64 z)
def IsI2 (y z : Int) (v : Value) (w : World) : Prop := ∃ g, v = .slice (some ⟨g, 0, none⟩) 2 2 ∧ World.cell? w ⟨g, 0, none⟩ = some (.int .i64 y) ∧ World.cell? w ⟨g, 1, none⟩ = some (.int .i64 z)
def IsN1 (z : Int) (v : Value) (w : World) : Prop := ∃ g s a n c, v = .slice (some ⟨g, 0, none⟩) 1 1 ∧ World.cell? w ⟨g, 0, none⟩ = some (.bool s) ∧ World.cell? w ⟨g, 1, none⟩ = some (.slice a n c) ∧ IsI 2 z (.agg #[.bool s, .slice a n c]) w
/-- The parts of an entry. -/
def Prt (z : Int) (gv gh : Nat) (w : World) : Prop := ∃ s a n c, World.cell? w ⟨gv, 0, none⟩ = some (.bool s) ∧ World.cell? w ⟨gv, 1, none⟩ = some (.slice a n c) ∧ IsI 2 z (.agg #[.bool s, .slice a n c]) w ∧ World.cell? w ⟨gh, 0, none⟩ = some (.int .i64 2)
theorem Prt.ext {z : Int} {gv gh : Nat} {w w' : World} (h : Prt z gv gh w) (e : Ext w w') : Prt z gv gh w' := let ⟨s, a, n, c, h1, h2, h3, h4⟩ := h; ⟨s, a, n, c, e.cell h1, e.cell h2, h3.ext e, e.cell h4⟩
def IsEn (x : ByteArray) (z : Int) (v : Value) (w : World) : Prop := ∃ gv gh, v = .agg (esE x gv gh).toArray ∧ Prt z gv gh w
def IsShX (x : ByteArray) (z : Int) (v : Value) (w : World) : Prop := ∃ gv gh gs g c, v = .agg #[.slice (some ⟨g, 0, none⟩) 1 c] ∧ Bk w g (hsE x gv gh gs) ∧ Prt z gv gh w
theorem IsS1.stb (x : ByteArray) : Stb (IsS1 x) := fun _ _ _ e ⟨g, h1, h2⟩ => ⟨g, h1, e.cell h2⟩
theorem IsI1.stb (z : Int) : Stb (IsI1 z) := fun _ _ _ e ⟨g, h1, h2⟩ => ⟨g, h1, e.cell h2⟩
theorem IsI2.stb (y z : Int) : Stb (IsI2 y z) := fun _ _ _ e ⟨g, h1, h2, h3⟩ => ⟨g, h1, e.cell h2, e.cell h3⟩
theorem IsN1.stb (z : Int) : Stb (IsN1 z) := fun _ _ _ e ⟨g, s, a, n, c, h1, h2, h3, h4⟩ => ⟨g, s, a, n, c, h1, e.cell h2, e.cell h3, h4.ext e⟩
theorem IsEn.stb (x : ByteArray) (z : Int) : Stb (IsEn x z) := fun _ _ _ e ⟨gv, gh, h1, h2⟩ => ⟨gv, gh, h1, h2.ext e⟩
theorem IsShX.stb (x : ByteArray) (z : Int) : Stb (IsShX x z) := fun _ _ _ e ⟨gv, gh, gs, g, c, h1, h2, h3⟩ => ⟨gv, gh, gs, g, c, h1, h2.ext e, h3.ext e⟩
theorem bsRun {T n : Nat} {ps : Array (Nat × Operand)} {a : Act} {v : Value} {w w' : World} {P : Program} (ho : o.op = .buildSlice T n ps) (hr : (Instr.buildSlice T n (ps.map fun p => (p.1, a.eval p.2))).run P w = .ok v w') : (execOp a.eval o).run P w = .ok (.value v) w' := by
 unfold execOp
 rw [ho]
 dsimp only
 rw [Sem.run_bind, hr]
 rfl
theorem bsS1 {x : ByteArray} (ho : o.op = .buildSlice 51 1 #[(0, .const (.string x))] := by rfl) (hi : L.getD i (fun _ _ => True) = IsS1 x := by kernel_rfl) (hb : boxes.contains i = false := by kernel_rfl) : Ok Tryz.prog ops Q ds a0 w0 L boxes i o :=
 okE hb fun v a w hE hd hf => by
  have hr : (Instr.buildSlice 51 1 #[(0, .string x)]).run Tryz.prog w = .ok (.slice (some ⟨w.heap.size, 0, none⟩) 1 1) (w.alloc (.cells #[.string x] 9)) := by go_simp
  exact ⟨_, _, bsRun ho (by simp only [List.map_toArray, List.map_cons, List.map_nil]; exact hr), (Ext.refl w).alloc _, by rw [hi]; exact ⟨_, rfl, (Bk.new w _ _).c 0 _ rfl⟩⟩
theorem bsI1 {z : Int} (ho : o.op = .buildSlice 41 1 #[(0, .const (.int .i64 z))] := by rfl) (hi : L.getD i (fun _ _ => True) = IsI1 z := by kernel_rfl) (hb : boxes.contains i = false := by kernel_rfl) : Ok Tryz.prog ops Q ds a0 w0 L boxes i o :=
 okE hb fun v a w hE hd hf => by
  have hr : (Instr.buildSlice 41 1 #[(0, .int .i64 z)]).run Tryz.prog w = .ok (.slice (some ⟨w.heap.size, 0, none⟩) 1 1) (w.alloc (.cells #[.int .i64 z] 3)) := by go_simp
  exact ⟨_, _, bsRun ho (by simp only [List.map_toArray, List.map_cons, List.map_nil]; exact hr), (Ext.refl w).alloc _, by rw [hi]; exact ⟨_, rfl, (Bk.new w _ _).c 0 _ rfl⟩⟩
theorem bsI2 {y z : Int} (ho : o.op = .buildSlice 41 2 #[(0, .const (.int .i64 y)), (1, .const (.int .i64 z))] := by rfl) (hi : L.getD i (fun _ _ => True) = IsI2 y z := by kernel_rfl) (hb : boxes.contains i = false := by kernel_rfl) : Ok Tryz.prog ops Q ds a0 w0 L boxes i o :=
 okE hb fun v a w hE hd hf => by
  have hr : (Instr.buildSlice 41 2 #[(0, .int .i64 y), (1, .int .i64 z)]).run Tryz.prog w = .ok (.slice (some ⟨w.heap.size, 0, none⟩) 2 2) (w.alloc (.cells #[.int .i64 y, .int .i64 z] 3)) := by go_simp
  exact ⟨_, _, bsRun ho (by simp only [List.map_toArray, List.map_cons, List.map_nil]; exact hr), (Ext.refl w).alloc _, by rw [hi]; exact ⟨_, rfl, (Bk.new w _ _).c 0 _ rfl, (Bk.new w _ _).c 1 _ rfl⟩⟩
theorem bsN1 {z : Int} {x : Operand} (hx : Od ops ds a0 w0 L i x (IsI 2 z)) (ho : o.op = .buildSlice 69 1 #[(0, x)] := by rfl) (hi : L.getD i (fun _ _ => True) = IsN1 z := by kernel_rfl) (hb : boxes.contains i = false := by kernel_rfl) : Ok Tryz.prog ops Q ds a0 w0 L boxes i o :=
 okE hb fun v a w hE hd hf => by
  obtain ⟨s, p, n, c, e1, h1⟩ := hx.out v a w hE hd hf
  have hr : (Instr.buildSlice 69 1 #[(0, .agg #[.bool s, .slice p n c])]).run Tryz.prog w = .ok (.slice (some ⟨w.heap.size, 0, none⟩) 1 1) (w.alloc (.cells #[.bool s, .slice p n c] 28)) := by go_simp
  exact ⟨_, _, bsRun ho (by simp only [List.map_toArray, List.map_cons, List.map_nil]; rw [e1]; exact hr), (Ext.refl w).alloc _, by rw [hi]; exact ⟨_, s, p, n, c, rfl, (Bk.new w _ _).c 0 _ rfl, (Bk.new w _ _).c 1 _ rfl, IsI.ext (show IsI 2 z _ w from ⟨s, p, n, c, rfl, h1⟩) ((Ext.refl w).alloc _)⟩⟩
theorem bdEnX {nm : ByteArray} {z : Int} {x y : Operand} (hx : Od ops ds a0 w0 L i x (IsN1 z)) (hy : Od ops ds a0 w0 L i y (IsI1 2)) (ho : o.op = .build 95 #[(0, .const (.string nm)), (1, x), (3, y)] := by rfl) (hi : L.getD i (fun _ _ => True) = IsEn nm z := by kernel_rfl) (hb : boxes.contains i = false := by kernel_rfl) : Ok Tryz.prog ops Q ds a0 w0 L boxes i o :=
 Ok.of hb fun v a w hE hd hf => by
  obtain ⟨gv, s, p, n, c, e1, h1, h2, h3⟩ := hx.out v a w hE hd hf
  obtain ⟨gh, e2, h4⟩ := hy.out v a w hE hd hf
  exact ⟨_, bdG ho (by simp only [List.map_toArray, List.map_cons, List.map_nil]; rw [e1, e2]; exact bd_En1 nm gv gh w), by rw [hi]; exact ⟨gv, gh, rfl, s, p, n, c, h1, h2, h3, h4⟩⟩
theorem bdShN (ho : o.op = .build 39 #[] := by rfl) (hi : L.getD i (fun _ _ => True) = IsV (.agg #[.slice none 0 0]) := by kernel_rfl) (hb : boxes.contains i = false := by kernel_rfl) : Ok Tryz.prog ops Q ds a0 w0 L boxes i o :=
 okV hb hi fun v a w hE hd hf => by
  have hr : (Instr.build 39 #[]).run Tryz.prog w = .ok (.agg #[.slice none 0 0]) w := by go_simp
  exact bdG ho (by rw [show (Array.map (fun p : Nat × Operand => (p.fst, a.eval p.snd)) #[]) = #[] from by simp]; exact hr)
theorem bdSo (ho : o.op = .build 102 #[] := by rfl) (hi : L.getD i (fun _ _ => True) = IsV (.agg #[.int .i64 0, .int .i64 0, .int .i64 0]) := by kernel_rfl) (hb : boxes.contains i = false := by kernel_rfl) : Ok Tryz.prog ops Q ds a0 w0 L boxes i o :=
 okV hb hi fun v a w hE hd hf => by
  have hr : (Instr.build 102 #[]).run Tryz.prog w = .ok (.agg #[.int .i64 0, .int .i64 0, .int .i64 0]) w := by go_simp
  exact bdG ho (by rw [show (Array.map (fun p : Nat × Operand => (p.fst, a.eval p.snd)) #[]) = #[] from by simp]; exact hr)
end
theorem ld_as : LdC1 Tryz.prog 51 := fun w a v h => by go_simp
theorem al_Sh (w : World) : (Instr.alloc 39 true (.tuple #[])).run Tryz.prog w = .ok (.pointer (some ⟨w.heap.size, 0, none⟩)) (w.alloc (.cells [Value.slice none 0 0].toArray 39)) := by go_simp
theorem nwNil : ∀ v ∈ [Value.slice none 0 0], NoWord v := fun v hv => by
 obtain rfl : v = .slice none 0 0 := by simpa using hv
 exact NoWord.slice _ _ _
theorem addX {nm : ByteArray} {z : Int} {x0 x1 x2 : Value} {w : World} (h0 : IsV (.agg #[.slice none 0 0]) x0 w) (h1 : IsEn nm z x1 w) (h2 : IsV (.agg #[.int .i64 0, .int .i64 0, .int .i64 0]) x2 w) : Calls Tryz.prog 25 #[x0, x1, x2] w (Ret w (IsShX nm z)) := by
 obtain rfl : x0 = _ := h0
 obtain rfl : x2 = _ := h2
 obtain ⟨gv, gh, rfl, P⟩ := h1
 refine Calls.mono add_f ?_
 rintro _ w2 ⟨v, rfl, e2, u, rfl, gs, g, c, rfl, hc, B⟩
 exact ⟨_, rfl, e2, gv, gh, gs, g, c, rfl, B, P.ext e2⟩
theorem Prt.fit {nm : ByteArray} {z : Int} {gv gh gs gg : Nat} {w : World} (P : Prt z gv gh w) (k1 : World.cell? w ⟨gg, 0, none⟩ = some (.int .i64 1)) (k2 : World.cell? w ⟨gg, 1, none⟩ = some (.int .i64 2)) : Fit w.heap.size nm z (.slice (some ⟨gg, 0, none⟩) 2 2) (hsE nm gv gh gs) w := by
 obtain ⟨s, a, n, c, h1, h2, h3, h4⟩ := P
 exact ⟨rfl, gv, gh, gg, 2, s, a, n, c, rfl, k1, k2, World.block_lt_of_cell? w _ h1, World.block_lt_of_cell? w _ h4, rfl, h1, h2, IsI.mono h3 (by decide), rfl, h4⟩
theorem Prt.only {z : Int} {gv gh g : Nat} {w w' : World} (P : Prt z gv gh w) (O : OnlyB g w w') (B : Bk w g [.slice none 0 0]) : Prt z gv gh w' := by
 obtain ⟨s, a, n, c, h1, h2, h3, h4⟩ := P
 have hv : gv ≠ g := fun e => by
  have := B.c 0 _ rfl
  rw [← e, h1] at this
  cases this
 have hh : gh ≠ g := fun e => by
  have := B.c 0 _ rfl
  rw [← e, h4] at this
  cases this
 exact ⟨s, a, n, c, (World.cell?_of_block (w := w) (a := ⟨gv, 0, none⟩) (O.block gv hv)).trans h1, (World.cell?_of_block (w := w) (a := ⟨gv, 1, none⟩) (O.block gv hv)).trans h2, IsI.gstb _ _ _ _ _ O.gr h3, (World.cell?_of_block (w := w) (a := ⟨gh, 0, none⟩) (O.block gh hh)).trans h4⟩
end Go.Proofs.YtkeikfekkdplgaaGreatDoor
