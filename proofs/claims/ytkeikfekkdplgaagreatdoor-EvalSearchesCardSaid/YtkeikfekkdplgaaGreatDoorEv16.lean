/-
 The law's helpers: num, variable, two, loop, run, alone, is. (Printed by wip/gen/ev16.py.)
-/
import Derived.Test.YtkeikfekkdplgaaGreatDoorEv15
import Derived.Test.YtkeikfekkdplgaaGreatDoorEvP
namespace Go.Proofs.YtkeikfekkdplgaaGreatDoor
open Go Go.RowKit Go.Maps
theorem IsNd.up {h h' : Nat} (hh : h ≤ h') {w : World} : ∀ {e : Ex} {us : List Value}, IsNd h e us w → IsNd h' e us w
 | .num z, us, H => H
 | .var x, us, H => H
 | .cell x, us, H => H
 | .val x j, us, H => H
 | .loop fst x lo hi b, us, ⟨k, s, a, n, c, g, o, m, cp, h1, h2, h3, h4, vs, h5, h6, h7⟩ => ⟨k, s, a, n, c, g, o, m, cp, h1, h2, h3, Nat.lt_of_lt_of_le h4 hh, vs, h5, h6, IsNd.up hh h7⟩
 | .bin op p q, us, ⟨x, k, s, a, n, c, lo, hi, g, o, m, cp, h1, h2, h3, h4, ⟨vs, h5, h6, h7⟩, vs', h5', h6', h7'⟩ =>
  ⟨x, k, s, a, n, c, lo, hi, g, o, m, cp, h1, h2, h3, Nat.lt_of_lt_of_le h4 hh, ⟨vs, h5, h6, IsNd.up hh h7⟩, vs', h5', h6', IsNd.up hh h7'⟩
theorem getE_app {j : Nat} {v : Value} (xs ys : List Value) (h : xs[j]? = some v) : (xs ++ ys)[j]? = some v := by rw [List.getElem?_append_left (List.getElem?_eq_some_iff.1 h).1]; exact h
theorem getE_app2 {j : Nat} {v : Value} (xs ys : List Value) (h : ys[j]? = some v) : (xs ++ ys)[xs.length + j]? = some v := by rw [List.getElem?_append_right (Nat.le_add_right _ _), Nat.add_sub_cancel_left]; exact h
/-- An expression as a value. -/
def IsNh (H : Nat) (e : Ex) : Value → World → Prop := fun x w => ∃ us : List Value, x = .agg us.toArray ∧ us.length = 8 ∧ us.all (fun u => u.oneCell') = true ∧ (∀ v ∈ us, NoWord v) ∧ IsNd H e us w
def IsNe (e : Ex) : Value → World → Prop := fun x w => IsNh w.heap.size e x w
theorem IsNh.stb (H : Nat) (e : Ex) : Stb (IsNh H e) := fun _ _ _ E ⟨us, h1, h2, h3, h4, h5⟩ => ⟨us, h1, h2, h3, h4, h5.rm (Rm.ext E)⟩
theorem IsNh.up {H H' : Nat} {e : Ex} {x : Value} {w : World} (h : IsNh H e x w) (hh : H ≤ H') : IsNh H' e x w := let ⟨us, h1, h2, h3, h4, h5⟩ := h; ⟨us, h1, h2, h3, h4, IsNd.up hh h5⟩
theorem IsNe.stb (e : Ex) : Stb (IsNe e) := fun x w w' E h => IsNh.up (IsNh.stb _ e x w w' E h) E.size
theorem OnlyB.rmg {g : Nat} {w w' : World} (O : OnlyB g w w') : Rm g w w' := ⟨O.os, O.tape, O.output, by rw [O.size]; exact Nat.le_refl _, fun k _ hg => O.block k (by omega), O.gr⟩
theorem nwNd {a b c d : Int} {s : ByteArray} {t : Bool} {p q : Option Addr} {n m k l : Nat} : ∀ v ∈ [Value.int .i64 a, .string s, .int .i64 b, .bool t, .slice p n m, .int .i64 c, .int .i64 d, .slice q k l], NoWord v := by
 intro v hv
 simp only [List.mem_cons, List.not_mem_nil, or_false] at hv
 rcases hv with rfl | rfl | rfl | rfl | rfl | rfl | rfl | rfl
 all_goals first | exact NoWord.bool _ | exact NoWord.slice _ _ _ | exact NoWord.int64 _ | exact NoWord.string _
def zNd : List Value := [.int .i64 0, .string ⟨#[]⟩, .int .i64 0, .bool false, .slice none 0 0, .int .i64 0, .int .i64 0, .slice none 0 0]
set_option maxRecDepth 100000
theorem st_Nd : StV Tryz.prog 31 8 := by
 intro w g vs us h1 h2 hs B
 match vs, h1 with
 | [v0, v1, v2, v3, v4, v5, v6, v7], _ =>
  match us, h2 with
  | [u0, u1, u2, u3, u4, u5, u6, u7], _ =>
   simp only [List.all_cons, List.all_nil, Bool.and_true, Bool.and_eq_true] at hs
   obtain ⟨s0, s1, s2, s3, s4, s5, s6, s7⟩ := hs
   have r0 := fun w a m => run_store Tryz.prog w a u0 m s0; have r1 := fun w a m => run_store Tryz.prog w a u1 m s1; have r2 := fun w a m => run_store Tryz.prog w a u2 m s2; have r3 := fun w a m => run_store Tryz.prog w a u3 m s3; have r4 := fun w a m => run_store Tryz.prog w a u4 m s4; have r5 := fun w a m => run_store Tryz.prog w a u5 m s5; have r6 := fun w a m => run_store Tryz.prog w a u6 m s6; have r7 := fun w a m => run_store Tryz.prog w a u7 m s7
   have c0 := B.c 0 _ rfl; have c1 := B.c 1 _ rfl; have c2 := B.c 2 _ rfl; have c3 := B.c 3 _ rfl; have c4 := B.c 4 _ rfl; have c5 := B.c 5 _ rfl; have c6 := B.c 6 _ rfl; have c7 := B.c 7 _ rfl
   have f0 := B.f 0; have f1 := B.f 1; have f2 := B.f 2; have f3 := B.f 3; have f4 := B.f 4; have f5 := B.f 5; have f6 := B.f 6; have f7 := B.f 7
   clear B s0 s1 s2 s3 s4 s5 s6 s7
   simp only [setL]
   go_simp
theorem al_Nd (w : World) : (Instr.alloc 31 true (.tuple #[])).run Tryz.prog w = .ok (.pointer (some ⟨w.heap.size, 0, none⟩)) (w.alloc (.cells zNd.toArray 31)) := by unfold zNd; go_simp
theorem nwZN : ∀ v ∈ zNd, NoWord v := nwNd
theorem bdN_run {x : Operand} {a : Act} {u v : Value} {w : World} {o : Oper} {op : Int} (ho : o.op = .build 31 #[(0, .const (.int .i64 op)), (3, x)]) (h : a.eval x = u) (hr : (Instr.build 31 #[(0, .int .i64 op), (3, u)]).run Tryz.prog w = .ok v w) : (execOp a.eval o).run Tryz.prog w = .ok (.value v) w := by
 unfold execOp
 rw [ho]
 dsimp only
 simp only [List.map_toArray, List.map_cons, List.map_nil]
 rw [h]
 simp [show a.eval (.const (.int .i64 op)) = .int .i64 op from rfl, hr]
theorem bdG {P : Program} {T : Nat} {ps : Array (Nat × Operand)} {a : Act} {v : Value} {w : World} {o : Oper} (ho : o.op = .build T ps) (hr : (Instr.build T (ps.map fun p => (p.1, a.eval p.2))).run P w = .ok v w) : (execOp a.eval o).run P w = .ok (.value v) w := by
 unfold execOp
 rw [ho]
 dsimp only
 simp [hr]
section
variable {ops : Array Oper} {Q : Exit → Act → World → Prop} {ds : List (Option Tmp)} {a0 : Act} {w0 : World} {L : List (Value → World → Prop)} {boxes : List Nat} {i k : Nat} {o : Oper} {os : List Oper}
/-- A row of one or two expressions. -/
def IsNs (B H : Nat) (es : List Ex) : Value → World → Prop := fun x w => ∃ g, x = .slice (some ⟨g, 0, none⟩) es.length es.length ∧ B ≤ g ∧ g < w.heap.size ∧ ∀ i e, es[i]? = some e → ∃ vs : List Value, vs.length = 8 ∧ (∀ j v, vs[j]? = some v → World.cell? w ⟨g, 8 * i + j, none⟩ = some v) ∧ IsNd H e vs w
theorem IsNs.stb (B H : Nat) (es : List Ex) : Stb (IsNs B H es) := fun _ _ _ E ⟨g, h1, h2, h3, h4⟩ => ⟨g, h1, h2, Nat.lt_of_lt_of_le h3 E.size, fun i e hi => let ⟨vs, q1, q2, q3⟩ := h4 i e hi; ⟨vs, q1, fun j v hj => E.cell (q2 j v hj), q3.rm (Rm.ext E)⟩⟩
theorem IsNs.only {B H g : Nat} {es : List Ex} {x : Value} {w w' : World} (h : IsNs B H es x w) (O : OnlyB g w w') (h1 : H ≤ g) (h2 : g < B) : IsNs B g es x w' := by
 obtain ⟨b, q1, q2, q3, q4⟩ := h
 refine ⟨b, q1, q2, by rw [O.size]; exact q3, fun i e hi => ?_⟩
 obtain ⟨vs, r1, r2, r3⟩ := q4 i e hi
 exact ⟨vs, r1, fun j v hj => (World.cell?_of_block (w := w) (a := ⟨b, _, none⟩) (O.block b (by omega))).trans (r2 j v hj), (IsNd.up h1 r3).rm O.rmg⟩
theorem bs1 {B H : Nat} {x : Operand} {e : Ex} (hx : Od ops ds a0 w0 L i x (IsNh H e)) (hB : B ≤ w0.heap.size) (ho : o.op = .buildSlice 29 1 #[(0, x)] := by rfl) (hi : L.getD i (fun _ _ => True) = IsNs B H [e] := by kernel_rfl) (hb : boxes.contains i = false := by kernel_rfl) : Ok Tryz.prog ops Q ds a0 w0 L boxes i o :=
 ⟨fun v a w hE hd hf K hK => by
  obtain ⟨us, h1, hl, h3, h4, h5⟩ := hx.out v a w hE hd hf
  obtain ⟨u0, u1, u2, u3, u4, u5, u6, u7, rfl⟩ := len8 hl
  have hr : (Instr.buildSlice 29 1 #[(0, .agg #[u0, u1, u2, u3, u4, u5, u6, u7])]).run Tryz.prog w = .ok (.slice (some ⟨w.heap.size, 0, none⟩) 1 1) (w.alloc (.cells #[u0, u1, u2, u3, u4, u5, u6, u7] 31)) := by go_simp
  have hrun : (execOp a.eval o).run Tryz.prog w = .ok (.value (.slice (some ⟨w.heap.size, 0, none⟩) 1 1)) (w.alloc (.cells #[u0, u1, u2, u3, u4, u5, u6, u7] 31)) := by
   unfold execOp
   rw [ho]
   dsimp only
   simp only [List.map_toArray, List.map_cons, List.map_nil]
   rw [h1]
   simp [hr]
  unfold Oper.wp
  rw [hrun]
  have E1 : Ext w (w.alloc (.cells #[u0, u1, u2, u3, u4, u5, u6, u7] 31)) := (Ext.refl _).alloc _
  have B1 := Bk.new w #[u0, u1, u2, u3, u4, u5, u6, u7] 31
  refine hK.out _ _ E1 ?_ (FreshIf.no hb)
  rw [hi]
  refine ⟨_, rfl, Nat.le_trans hB hE.size, B1.lt, fun i' e' hi' => ?_⟩
  rcases i' with _ | i'
  ·obtain rfl : e = e' := by simpa using hi'
   exact ⟨[u0, u1, u2, u3, u4, u5, u6, u7], rfl, fun j v hj => by rw [Nat.mul_zero, Nat.zero_add]; exact B1.c j v hj, h5.rm (Rm.ext E1)⟩
  ·simp at hi'⟩
theorem bs2 {B H : Nat} {x y : Operand} {e f : Ex} (hx : Od ops ds a0 w0 L i x (IsNh H e)) (hy : Od ops ds a0 w0 L i y (IsNh H f)) (hB : B ≤ w0.heap.size) (ho : o.op = .buildSlice 29 2 #[(0, x), (1, y)] := by rfl) (hi : L.getD i (fun _ _ => True) = IsNs B H [e, f] := by kernel_rfl) (hb : boxes.contains i = false := by kernel_rfl) : Ok Tryz.prog ops Q ds a0 w0 L boxes i o :=
 ⟨fun v a w hE hd hf K hK => by
  obtain ⟨us, h1, hl, h3, h4, h5⟩ := hx.out v a w hE hd hf
  obtain ⟨u0, u1, u2, u3, u4, u5, u6, u7, rfl⟩ := len8 hl
  obtain ⟨us', h1', hl', h3', h4', h5'⟩ := hy.out v a w hE hd hf
  obtain ⟨t0, t1, t2, t3, t4, t5, t6, t7, rfl⟩ := len8 hl'
  have hr : (Instr.buildSlice 29 2 #[(0, .agg #[u0, u1, u2, u3, u4, u5, u6, u7]), (1, .agg #[t0, t1, t2, t3, t4, t5, t6, t7])]).run Tryz.prog w = .ok (.slice (some ⟨w.heap.size, 0, none⟩) 2 2) (w.alloc (.cells #[u0, u1, u2, u3, u4, u5, u6, u7, t0, t1, t2, t3, t4, t5, t6, t7] 31)) := by go_simp
  have hrun : (execOp a.eval o).run Tryz.prog w = .ok (.value (.slice (some ⟨w.heap.size, 0, none⟩) 2 2)) (w.alloc (.cells #[u0, u1, u2, u3, u4, u5, u6, u7, t0, t1, t2, t3, t4, t5, t6, t7] 31)) := by
   unfold execOp
   rw [ho]
   dsimp only
   simp only [List.map_toArray, List.map_cons, List.map_nil]
   rw [h1, h1']
   simp [hr]
  unfold Oper.wp
  rw [hrun]
  have E1 : Ext w (w.alloc (.cells #[u0, u1, u2, u3, u4, u5, u6, u7, t0, t1, t2, t3, t4, t5, t6, t7] 31)) := (Ext.refl _).alloc _
  have B1 := Bk.new w #[u0, u1, u2, u3, u4, u5, u6, u7, t0, t1, t2, t3, t4, t5, t6, t7] 31
  refine hK.out _ _ E1 ?_ (FreshIf.no hb)
  rw [hi]
  refine ⟨_, rfl, Nat.le_trans hB hE.size, B1.lt, fun i' e' hi' => ?_⟩
  rcases i' with _ | _ | i'
  ·obtain rfl : e = e' := by simpa using hi'
   exact ⟨[u0, u1, u2, u3, u4, u5, u6, u7], rfl, fun j v hj => by rw [Nat.mul_zero, Nat.zero_add]; exact B1.c j v (getE_app [u0, u1, u2, u3, u4, u5, u6, u7] [t0, t1, t2, t3, t4, t5, t6, t7] hj), h5.rm (Rm.ext E1)⟩
  ·obtain rfl : f = e' := by simpa using hi'
   exact ⟨[t0, t1, t2, t3, t4, t5, t6, t7], rfl, fun j v hj => B1.c (8 * (0 + 1) + j) v (getE_app2 [u0, u1, u2, u3, u4, u5, u6, u7] [t0, t1, t2, t3, t4, t5, t6, t7] hj), h5'.rm (Rm.ext E1)⟩
  ·simp at hi'⟩
end

set_option maxRecDepth 100000 in
set_option maxHeartbeats 8000000 in
theorem num_f (w : World) (z : Int) (hz : -9223372036854775808 ≤ z ∧ z ≤ 9223372036854775807) : Calls Tryz.prog 43 #[.int .i64 z] w (Ret w (IsNe (.num z))) := by
 have HZ := hid hz; clear hz
 obtain ⟨W, hW, E, B⟩ : ∃ W, W = w.alloc (.cells #[.int .i64 0, .string ⟨#[]⟩, .int .i64 0, .bool false, .slice none 0 0, .int .i64 0, .int .i64 0, .slice none 0 0] 31) ∧ Ext w W ∧ Bk W w.heap.size zNd := ⟨_, rfl, (Ext.refl w).alloc _, Bk.new w _ _⟩
 go_enter Tryz.func43, Tryz.ntmps43
 go_upto_region 1 with (fail)
 rw [← hW]
 clear hW
 refine rgs 3 [some 3, some 4, some 5] [IsV (.int .i64 z), IsI 2 z, (fun x w => ∃ s a n c, x = .agg #[.int .i64 1, .string ⟨#[]⟩, .int .i64 0, .bool s, .slice a n c, .int .i64 0, .int .i64 0, .slice none 0 0] ∧ IsI 2 z (.agg #[.bool s, .slice a n c]) w)] [] ?_ ?_ (hst := ⟨IsV.stb _, IsI.stb _ _, fun _ _ _ e ⟨s, a, n, c, h1, h2⟩ => ⟨s, a, n, c, h1, h2.ext e⟩, trivial⟩)
 ·refine Rc (mv (Od.lit 0)) ?_
  refine Rc (cl1 (en Tryz.func26) (Od.lc (Φ := IsV (.int .i64 z)) 0 3) (fun x0 w' hE d0 => by { obtain rfl : x0 = .int .i64 z := d0; exact ROf_f w' z HZ.out.1 HZ.out.2 })) ?_
  refine Rc (Ok.of (by kernel_rfl) fun v a w hE hd hf => by
   obtain ⟨s, b, n, c, e1, h1⟩ := (Od.lc (Φ := IsI 2 z) 1 4 : Od _ _ _ _ _ _ _ _).out v a w hE hd hf
   refine ⟨.agg #[.int .i64 1, .string ⟨#[]⟩, .int .i64 0, .bool s, .slice b n c, .int .i64 0, .int .i64 0, .slice none 0 0], ?_, s, b, n, c, rfl, s, b, n, c, rfl, h1⟩
   have hr : (Instr.build 31 #[(0, .int .i64 1), (3, .agg #[.bool s, .slice b n c])]).run Tryz.prog w = .ok (.agg #[.int .i64 1, .string ⟨#[]⟩, .int .i64 0, .bool s, .slice b n c, .int .i64 0, .int .i64 0, .slice none 0 0]) w := by go_simp
   exact bdN_run rfl e1 hr) ?_
  exact RgAll.nil
 intro v W1 e1 hΦ _
 replace E := E.trans e1
 replace B := B.ext e1
 obtain ⟨s, a, n, c, hv, hz⟩ := hΦ 2 (by decide)
 simp only [layL, Act.put, uAx, u0x, u1x, Nat.reduceAdd]
 rw [hv]
 clear hv hΦ e1
 refine stL (fun K hK => ?_)
 refine stV (us := [.int .i64 1, .string ⟨#[]⟩, .int .i64 0, .bool s, .slice a n c, .int .i64 0, .int .i64 0, .slice none 0 0]) B st_Nd rfl rfl nwNd E (by omega) (fun W9 B9 E9 G9 _ _ => hK _ _ ?_)
 refine wpList_nil ?_
 have d0 := B9.c 0 _ rfl; have d1 := B9.c 1 _ rfl; have d2 := B9.c 2 _ rfl; have d3 := B9.c 3 _ rfl; have d4 := B9.c 4 _ rfl; have d5 := B9.c 5 _ rfl; have d6 := B9.c 6 _ rfl; have d7 := B9.c 7 _ rfl;
 clear hK K
 go_wp2_with fail
 exact bodyPost_ret (v := .agg #[.int .i64 1, .string ⟨#[]⟩, .int .i64 0, .bool s, .slice a n c, .int .i64 0, .int .i64 0, .slice none 0 0]) (by simp [results, Tryz.results43, go_sem, d0, d1, d2, d3, d4, d5, d6, d7]) rfl ⟨_, rfl, E9, _, rfl, rfl, rfl, nwNd, ⟨_, _, _, _, _, _, _, _, _, rfl, (IsI.gstb _ _ _ _ _ G9 hz).mono (by decide)⟩⟩

set_option maxRecDepth 100000 in
set_option maxHeartbeats 8000000 in
theorem variable_f (w : World) (s : ByteArray) : Calls Tryz.prog 40 #[.string s] w (Ret w (IsNe (.var s))) := by
 obtain ⟨W, hW, E, B⟩ : ∃ W, W = w.alloc (.cells #[.int .i64 0, .string ⟨#[]⟩, .int .i64 0, .bool false, .slice none 0 0, .int .i64 0, .int .i64 0, .slice none 0 0] 31) ∧ Ext w W ∧ Bk W w.heap.size zNd := ⟨_, rfl, (Ext.refl w).alloc _, Bk.new w _ _⟩
 go_enter Tryz.func40, Tryz.ntmps40
 go_upto_region 1 with (fail)
 rw [← hW]
 clear hW
 refine rgs 2 [some 3, some 4] [IsV (.string s), IsV (.agg #[.int .i64 11, .string s, .int .i64 0, .bool false, .slice none 0 0, .int .i64 0, .int .i64 0, .slice none 0 0])] [] ?_ ?_ (hst := ⟨IsV.stb _, IsV.stb _, trivial⟩)
 ·refine Rc (mv (Od.lit 0)) ?_
  refine Rc (Ok.of (by kernel_rfl) fun v a w hE hd hf => by
   have e1 : a.eval (.tmp 3) = .string s := (Od.lc (Φ := IsV (.string s)) 0 3 : Od _ _ _ _ _ _ _ _).out v a w hE hd hf
   have hr : (Instr.build 31 #[(0, .int .i64 11), (1, .string s)]).run Tryz.prog w = .ok (.agg #[.int .i64 11, .string s, .int .i64 0, .bool false, .slice none 0 0, .int .i64 0, .int .i64 0, .slice none 0 0]) w := by go_simp
   exact ⟨_, bdG rfl (by simp only [List.map_toArray, List.map_cons, List.map_nil]; rw [e1]; exact hr), rfl⟩) ?_
  exact RgAll.nil
 intro v W1 e1 hΦ _
 replace E := E.trans e1
 replace B := B.ext e1
 simp only [layL, Act.put, uAx, u0x, u1x, Nat.reduceAdd]
 rw [show v 1 = .agg #[.int .i64 11, .string s, .int .i64 0, .bool false, .slice none 0 0, .int .i64 0, .int .i64 0, .slice none 0 0] from hΦ 1 (by decide)]
 clear hΦ e1
 refine stL (fun K hK => ?_)
 refine stV (us := [.int .i64 11, .string s, .int .i64 0, .bool false, .slice none 0 0, .int .i64 0, .int .i64 0, .slice none 0 0]) B st_Nd rfl rfl nwNd E (by omega) (fun W9 B9 E9 G9 _ _ => hK _ _ ?_)
 refine wpList_nil ?_
 have d0 := B9.c 0 _ rfl; have d1 := B9.c 1 _ rfl; have d2 := B9.c 2 _ rfl; have d3 := B9.c 3 _ rfl; have d4 := B9.c 4 _ rfl; have d5 := B9.c 5 _ rfl; have d6 := B9.c 6 _ rfl; have d7 := B9.c 7 _ rfl;
 clear hK K
 go_wp2_with fail
 exact bodyPost_ret (v := .agg #[.int .i64 11, .string s, .int .i64 0, .bool false, .slice none 0 0, .int .i64 0, .int .i64 0, .slice none 0 0]) (by simp [results, Tryz.results40, go_sem, d0, d1, d2, d3, d4, d5, d6, d7]) rfl ⟨_, rfl, E9, _, rfl, rfl, rfl, nwNd, ⟨_, _, _, _, _, _, _, _, rfl⟩⟩

set_option maxRecDepth 100000 in
set_option maxHeartbeats 8000000 in
theorem two_f {w : World} {x y : Value} {p q : Ex} (op : Int) (hx : IsNe p x w) (hy : IsNe q y w) : Calls Tryz.prog 28 #[.int .i64 op, x, y] w (Ret w (IsNe (.bin op p q))) := by
 obtain ⟨us, rfl, hl, h3, h4, h5⟩ := id hx
 obtain ⟨u0, u1, u2, u3, u4, u5, u6, u7, rfl⟩ := len8 hl
 obtain ⟨us', rfl, hl', h3', h4', h5'⟩ := id hy
 obtain ⟨t0, t1, t2, t3, t4, t5, t6, t7, rfl⟩ := len8 hl'
 clear h3 h4 h5 hl h3' h4' h5' hl'
 obtain ⟨W, hW, E, B1, B2, B⟩ : ∃ W, W = ((w.alloc (.cells #[u0, u1, u2, u3, u4, u5, u6, u7] 31)).alloc (.cells #[t0, t1, t2, t3, t4, t5, t6, t7] 31)).alloc (.cells #[.int .i64 0, .string ⟨#[]⟩, .int .i64 0, .bool false, .slice none 0 0, .int .i64 0, .int .i64 0, .slice none 0 0] 31) ∧ Ext w W ∧ Bk W w.heap.size [u0, u1, u2, u3, u4, u5, u6, u7] ∧ Bk W (w.heap.size + 1) [t0, t1, t2, t3, t4, t5, t6, t7] ∧ Bk W (w.heap.size + 2) zNd := ⟨_, rfl, (((Ext.refl w).alloc _).alloc _).alloc _, (Bk.new w _ _).ext (((Ext.refl _).alloc _).alloc _), (Bk.newE _ _ (by simp) _ _).ext ((Ext.refl _).alloc _), Bk.newE _ _ (by simp) _ _⟩
 replace hx := IsNh.stb w.heap.size _ _ _ _ E hx
 replace hy := IsNh.stb w.heap.size _ _ _ _ E hy
 have hsz := B.lt
 go_enter Tryz.func28, Tryz.ntmps28
 go_upto_region 1 with (fail)
 rw [← hW]
 clear hW
 refine rgs 5 [some 7, some 8, some 9, some 10, some 11] [IsV (.int .i64 op), IsNh w.heap.size p, IsNh w.heap.size q, IsNs W.heap.size w.heap.size [p, q], (fun x w' => ∃ g, x = .agg #[.int .i64 op, .string ⟨#[]⟩, .int .i64 0, .bool false, .slice none 0 0, .int .i64 0, .int .i64 0, .slice (some ⟨g, 0, none⟩) 2 2] ∧ IsNs W.heap.size w.heap.size [p, q] (.slice (some ⟨g, 0, none⟩) 2 2) w')] [] ?_ ?_ (hst := ⟨IsV.stb _, IsNh.stb _ _, IsNh.stb _ _, IsNs.stb _ _ _, fun _ _ _ e ⟨g, h1, h2⟩ => ⟨g, h1, IsNs.stb _ _ _ _ _ _ e h2⟩, trivial⟩)
 ·refine Rc (mv (Od.lit 0)) ?_
  refine Rc (lv _ (fun w' e => ld_Nd8 w' _ _ rfl (B1.ext e)) (Od.lit 4) (fun w' e => IsNh.stb _ _ _ _ _ e hx)) ?_
  refine Rc (lv _ (fun w' e => ld_Nd8 w' _ _ rfl (B2.ext e)) (Od.lit 5) (fun w' e => IsNh.stb _ _ _ _ _ e hy)) ?_
  refine Rc (bs2 (Od.lc (Φ := IsNh w.heap.size p) 1 8) (Od.lc (Φ := IsNh w.heap.size q) 2 9) (Nat.le_refl _)) ?_
  refine Rc (Ok.of (by kernel_rfl) fun v a w2 hE hd hf => by
   have e1 : a.eval (.tmp 7) = .int .i64 op := (Od.lc (Φ := IsV (.int .i64 op)) 0 7 : Od _ _ _ _ _ _ _ _).out v a w2 hE hd hf
   obtain ⟨g, e2, h2⟩ := (Od.lc (Φ := IsNs W.heap.size w.heap.size [p, q]) 3 10 : Od _ _ _ _ _ _ _ _).out v a w2 hE hd hf
   have hr : (Instr.build 31 #[(0, .int .i64 op), (6, .slice (some ⟨g, 0, none⟩) 2 2)]).run Tryz.prog w2 = .ok (.agg #[.int .i64 op, .string ⟨#[]⟩, .int .i64 0, .bool false, .slice none 0 0, .int .i64 0, .int .i64 0, .slice (some ⟨g, 0, none⟩) 2 2]) w2 := by go_simp
   exact ⟨_, bdG rfl (by simp only [List.map_toArray, List.map_cons, List.map_nil]; rw [e1, e2]; exact hr), g, rfl, g, rfl, h2⟩) ?_
  exact RgAll.nil
 intro v W1 e1 hΦ _
 replace E := E.trans e1
 replace B := B.ext e1
 obtain ⟨g, hv, hn⟩ := hΦ 4 (by decide)
 simp only [layL, Act.put, uAx, u0x, u1x, Nat.reduceAdd]
 rw [hv]
 clear hv hΦ e1 B1 B2 hx hy
 refine stL (fun K hK => ?_)
 refine stVO (us := [.int .i64 op, .string ⟨#[]⟩, .int .i64 0, .bool false, .slice none 0 0, .int .i64 0, .int .i64 0, .slice (some ⟨g, 0, none⟩) 2 2]) B st_Nd rfl rfl nwNd (fun W9 B9 O => hK _ _ ?_)
 have hnn := hn.only O (Nat.le_add_right _ _) (by omega)
 have E9 := O.ext E (by omega)
 refine wpList_nil ?_
 have d0 := B9.c 0 _ rfl; have d1 := B9.c 1 _ rfl; have d2 := B9.c 2 _ rfl; have d3 := B9.c 3 _ rfl; have d4 := B9.c 4 _ rfl; have d5 := B9.c 5 _ rfl; have d6 := B9.c 6 _ rfl; have d7 := B9.c 7 _ rfl;
 clear hK K
 go_wp2_with fail
 exact bodyPost_ret (v := .agg #[.int .i64 op, .string ⟨#[]⟩, .int .i64 0, .bool false, .slice none 0 0, .int .i64 0, .int .i64 0, .slice (some ⟨g, 0, none⟩) 2 2]) (by simp [results, Tryz.results28, go_sem, d0, d1, d2, d3, d4, d5, d6, d7]) rfl ⟨_, rfl, E9, _, rfl, rfl, rfl, nwNd, (fun hn' => by
  obtain ⟨g', q1, q2, q3, q4⟩ := hn'
  injection q1 with q1
  injection q1 with q1
  injection q1 with q1
  subst q1
  obtain ⟨vs, r1, r2, r3⟩ := q4 0 p rfl
  obtain ⟨vs', r1', r2', r3'⟩ := q4 1 q rfl
  exact ⟨_, _, _, _, _, _, _, _, g, 0, 2, 2, rfl, Nat.le_refl _, by decide, q3, ⟨vs, r1, fun j v hj => by simpa using r2 j v hj, IsNd.up (by have := B9.lt; omega) r3⟩, vs', r1', fun j v hj => by simpa using r2' j v hj, IsNd.up (by have := B9.lt; omega) r3'⟩) hnn⟩

set_option maxRecDepth 100000 in
set_option maxHeartbeats 8000000 in
theorem loop_f {w : World} {y : Value} {b : Ex} (opc : Int) (fst : Bool) (hopc : opc = if fst then 10 else 9) (x : ByteArray) (lo hi : Int) (hx : IsNe b y w) : Calls Tryz.prog 42 #[.int .i64 opc, .string x, .int .i64 lo, .int .i64 hi, y] w (Ret w (IsNe (.loop fst x lo hi b))) := by
 obtain ⟨us, rfl, hl, h3, h4, h5⟩ := id hx
 obtain ⟨u0, u1, u2, u3, u4, u5, u6, u7, rfl⟩ := len8 hl
 clear h3 h4 h5 hl
 have HO := hid hopc; clear hopc
 obtain ⟨W, hW, E, B1, B⟩ : ∃ W, W = (w.alloc (.cells #[u0, u1, u2, u3, u4, u5, u6, u7] 31)).alloc (.cells #[.int .i64 0, .string ⟨#[]⟩, .int .i64 0, .bool false, .slice none 0 0, .int .i64 0, .int .i64 0, .slice none 0 0] 31) ∧ Ext w W ∧ Bk W w.heap.size [u0, u1, u2, u3, u4, u5, u6, u7] ∧ Bk W (w.heap.size + 1) zNd := ⟨_, rfl, ((Ext.refl w).alloc _).alloc _, (Bk.new w _ _).ext ((Ext.refl _).alloc _), Bk.newE _ _ (by simp) _ _⟩
 replace hx := IsNh.stb w.heap.size _ _ _ _ E hx
 have hsz := B.lt
 go_enter Tryz.func42, Tryz.ntmps42
 go_upto_region 1 with (fail)
 rw [← hW]
 clear hW
 refine rgs 7 [some 11, some 12, some 13, some 14, some 15, some 16, some 17] [IsV (.int .i64 opc), IsV (.string x), IsV (.int .i64 lo), IsV (.int .i64 hi), IsNh w.heap.size b, IsNs W.heap.size w.heap.size [b], (fun x' w' => ∃ g, x' = .agg #[.int .i64 opc, .string x, .int .i64 0, .bool false, .slice none 0 0, .int .i64 lo, .int .i64 hi, .slice (some ⟨g, 0, none⟩) 1 1] ∧ IsNs W.heap.size w.heap.size [b] (.slice (some ⟨g, 0, none⟩) 1 1) w')] [] ?_ ?_ (hst := ⟨IsV.stb _, IsV.stb _, IsV.stb _, IsV.stb _, IsNh.stb _ _, IsNs.stb _ _ _, fun _ _ _ e ⟨g, h1, h2⟩ => ⟨g, h1, IsNs.stb _ _ _ _ _ _ e h2⟩, trivial⟩)
 ·refine Rc (mv (Od.lit 0)) ?_
  refine Rc (mv (Od.lit 1)) ?_
  refine Rc (mv (Od.lit 2)) ?_
  refine Rc (mv (Od.lit 3)) ?_
  refine Rc (lv _ (fun w' e => ld_Nd8 w' _ _ rfl (B1.ext e)) (Od.lit 9) (fun w' e => IsNh.stb _ _ _ _ _ e hx)) ?_
  refine Rc (bs1 (Od.lc (Φ := IsNh w.heap.size b) 4 15) (Nat.le_refl _)) ?_
  refine Rc (Ok.of (by kernel_rfl) fun v a w2 hE hd hf => by
   have e1 : a.eval (.tmp 11) = .int .i64 opc := (Od.lc (Φ := IsV (.int .i64 opc)) 0 11 : Od _ _ _ _ _ _ _ _).out v a w2 hE hd hf
   have e2 : a.eval (.tmp 12) = .string x := (Od.lc (Φ := IsV (.string x)) 1 12 : Od _ _ _ _ _ _ _ _).out v a w2 hE hd hf
   have e3 : a.eval (.tmp 13) = .int .i64 lo := (Od.lc (Φ := IsV (.int .i64 lo)) 2 13 : Od _ _ _ _ _ _ _ _).out v a w2 hE hd hf
   have e4 : a.eval (.tmp 14) = .int .i64 hi := (Od.lc (Φ := IsV (.int .i64 hi)) 3 14 : Od _ _ _ _ _ _ _ _).out v a w2 hE hd hf
   obtain ⟨g, e5, h2⟩ := (Od.lc (Φ := IsNs W.heap.size w.heap.size [b]) 5 16 : Od _ _ _ _ _ _ _ _).out v a w2 hE hd hf
   have hr : (Instr.build 31 #[(0, .int .i64 opc), (1, .string x), (4, .int .i64 lo), (5, .int .i64 hi), (6, .slice (some ⟨g, 0, none⟩) 1 1)]).run Tryz.prog w2 = .ok (.agg #[.int .i64 opc, .string x, .int .i64 0, .bool false, .slice none 0 0, .int .i64 lo, .int .i64 hi, .slice (some ⟨g, 0, none⟩) 1 1]) w2 := by go_simp
   exact ⟨_, bdG rfl (by simp only [List.map_toArray, List.map_cons, List.map_nil]; rw [e1, e2, e3, e4, e5]; exact hr), g, rfl, g, rfl, h2⟩) ?_
  exact RgAll.nil
 intro v W1 e1 hΦ _
 replace E := E.trans e1
 replace B := B.ext e1
 obtain ⟨g, hv, hn⟩ := hΦ 6 (by decide)
 simp only [layL, Act.put, uAx, u0x, u1x, Nat.reduceAdd]
 rw [hv]
 clear hv hΦ e1 B1 hx
 refine stL (fun K hK => ?_)
 refine stVO (us := [.int .i64 opc, .string x, .int .i64 0, .bool false, .slice none 0 0, .int .i64 lo, .int .i64 hi, .slice (some ⟨g, 0, none⟩) 1 1]) B st_Nd rfl rfl nwNd (fun W9 B9 O => hK _ _ ?_)
 have hnn := hn.only O (Nat.le_add_right _ _) (by omega)
 have E9 := O.ext E (by omega)
 refine wpList_nil ?_
 have d0 := B9.c 0 _ rfl; have d1 := B9.c 1 _ rfl; have d2 := B9.c 2 _ rfl; have d3 := B9.c 3 _ rfl; have d4 := B9.c 4 _ rfl; have d5 := B9.c 5 _ rfl; have d6 := B9.c 6 _ rfl; have d7 := B9.c 7 _ rfl;
 clear hK K
 go_wp2_with fail
 exact bodyPost_ret (v := .agg #[.int .i64 opc, .string x, .int .i64 0, .bool false, .slice none 0 0, .int .i64 lo, .int .i64 hi, .slice (some ⟨g, 0, none⟩) 1 1]) (by simp [results, Tryz.results42, go_sem, d0, d1, d2, d3, d4, d5, d6, d7]) rfl ⟨_, rfl, E9, _, rfl, rfl, rfl, nwNd, (fun hn' => by
  obtain ⟨g', q1, q2, q3, q4⟩ := hn'
  injection q1 with q1
  injection q1 with q1
  injection q1 with q1
  subst q1
  obtain ⟨vs, r1, r2, r3⟩ := q4 0 b rfl
  exact ⟨_, _, _, _, _, g, 0, 1, 1, by rw [HO.out], Nat.le_refl _, by decide, q3, vs, r1, fun j v hj => by simpa using r2 j v hj, IsNd.up (by have := B9.lt; omega) r3⟩) hnn⟩
end Go.Proofs.YtkeikfekkdplgaaGreatDoor
