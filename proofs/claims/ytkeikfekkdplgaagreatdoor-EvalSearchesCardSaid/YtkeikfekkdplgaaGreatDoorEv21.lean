/-
 The caller of a range over a function, in the plain mode: a function's contract where its body holds such ranges; the statement itself.
 Package eval: value without bound variables, over Best's contract.
 Package eval: a use of one hypothesis.
 Package eval: value without bound variables, over Best's contract.
-/
import Derived.Test.YtkeikfekkdplgaaGreatDoorRfb
import Derived.RangeFuncLeaves
import Derived.Shelf.Abstract
import Derived.WalkKit
import Derived.OwnWalkIn
import Derived.TacticsInMore
import Derived.LoopNIn
import Derived.LoopIn
import Derived.RangeFuncBox
import Derived.Test.YtkeikfekkdplgaaGreatDoorBase
import Derived.Test.YtkeikfekkdplgaaGreatDoorSto
import Derived.OrdersIn
import Derived.Deep.MidRow
namespace Go.Proofs.YtkeikfekkdplgaaGreatDoor
open Go Go.RowKit Go.Shelf

theorem calls_of_wp_marks {P : Program} {f : FuncId} {fn : Func} {c : Code} {args : Array Value} {w : World} {R : Ending → World → Prop}
  (hf : P.funcs[f]? = some fn) (hb : fn.body = some c) (h : c.wp P (bodyPostM Fence.wide 9 P fn R) { tmps := args ++ Array.replicate (fn.ntmps - args.size) undef, defers := [] } w) : Calls P f args w R :=
 callsIn_wide.1 (callsIn_of_wp_marks hf hb trivial (wpIn_wide.2 h))
theorem marks_ret1 {P : Program} {fn : Func} {R : Ending → World → Prop} {t : Array Value} {w : World} {v : Value} {D : Nat} (hD : w.heap[D]? = some (.deferred (some [])))
  (h : (results fn t).run P (w.putObj D (.deferred none)) = .ok v (w.putObj D (.deferred none))) (hR : R (.returned v) (w.putObj D (.deferred none))) :
  bodyPostM Fence.wide 9 P fn R .ret { tmps := t, defers := [{ target := .collected D, args := #[] }] } w := ⟨by simp, .inl ⟨_, _, rfl, run_takeDeferred hD, v, h, hR⟩⟩
theorem lone_below {n : Nat} {W0 A B : World} {c : Nat} (h : Below n W0 A) (hg : A.grownBy B (some c)) (hn : n ≤ W0.heap.size) (hc : n ≤ c) : Below n W0 B :=
 h.grown hg (Nat.le_trans hn h.size) (fun k e => by cases e; exact hc)
end Go.Proofs.YtkeikfekkdplgaaGreatDoor
namespace Go.Proofs.YtkeikfekkdplgaaGreatDoor
open Go Go.RowKit Go.Maps Go.Shelf

attribute [local go_sem] Oper.semAt_some
theorem marks_panic1 {P : Program} {fn : Func} {R : Ending → World → Prop} {t : Array Value} {w : World} {D : Nat} {ch : List PanicEntry} (hD : w.heap[D]? = some (.deferred (some []))) (hR : R (.panicked ch) (w.putObj D (.deferred none))) :
  bodyPostM Fence.wide 9 P fn R (.panic ch) { tmps := t, defers := [{ target := .collected D, args := #[] }] } w := ⟨by simp, .inl ⟨_, _, rfl, run_takeDeferred hD, hR⟩⟩
theorem back0_in (F : Fence) (n : Nat) (h7 : F.fn 179) (hro : F.round = none) (l Bs cap : Nat) (ao : Option Addr) (J : List Empty → World → Prop) (W : World) (hBs : W.cell? ⟨Bs, 0, none⟩ = some (.slice ao 0 cap)) (h0 : J [] W) :
  CallsIn F n Tryz.prog 179 #[.func (.yield l) #[] #[], .pointer (some ⟨Bs, 0, none⟩)] W fun e W' => (∃ v, e = .returned v) ∧ J [] W' := by
 refine callsIn_of_wp Tryz.func179 rfl h7 ?_ hro
 simp only [Tryz.ntmps179, List.size_toArray, List.length_cons, List.length_nil, Nat.reduceAdd, Nat.reduceSub, Array.replicate_succ, Array.replicate_zero, List.push_toArray, List.append_toArray, List.nil_append, List.cons_append]
 gi_wp2
 gi_loopw [3] (fun i wr => i = .int .i64 (-1) ∧ J [] wr) (fun _ _ => 0)
 case atStart => exact ⟨rfl, h0⟩
 case round =>
  obtain ⟨rfl, hJs⟩ := hrel
  gi_wp2
  go_end0
  exact ⟨⟨_, rfl⟩, hJs⟩
theorem backSeq {w : World} {g : Nat} {ao : Option Addr} {cap : Nat} {F : Fence} {n : Nat} (h7 : F.fn 179) (hro : F.round = none) (hg : g < w.heap.size) (hB : w.cell? ⟨g, 0, none⟩ = some (.slice ao 0 cap)) :
  SeqBox F n Tryz.prog 179 #[.pointer (some ⟨g, 0, none⟩)] (fun x : Empty => nomatch x) g (fun xs => xs = []) (fun _ => False) w := by
 intro l J Jx W hW hJ hJx hy h0
 have hc : W.cell? ⟨g, 0, none⟩ = some (.slice ao 0 cap) := (World.cell?_of_block (w := w) (a := ⟨g, 0, none⟩) (hW.block g hg)).trans hB
 exact CallsIn.mono (back0_in F n h7 hro l g cap ao J W hc h0) fun e W' h => ⟨h.1, .inl ⟨[], rfl, h.2⟩⟩
theorem setCells_setL : ∀ (us : List Value) (W : World) (g j : Nat), W.setCells g j us = setL W g j us
 | [], W, g, j => rfl
 | u :: us, W, g, j => by
  unfold setL
  rw [← setCells_setL us]
  rfl
theorem row_of {T : TypeId} (h : ((Tryz.prog.underlying T).any (·.isRow)) = true) : ∃ d, Tryz.prog.underlying T = some d ∧ d.isRow = true := by
 cases hq : Tryz.prog.underlying T with
 | none => rw [hq] at h; cases h
 | some d => rw [hq] at h; exact ⟨d, rfl, h⟩
theorem ld_mid {T m : Nat} (hu : ((Tryz.prog.underlying T).any (·.isRow)) = true) (hi : (Tryz.prog.info? T).map (·.size) = some m) : LdV Tryz.prog T m := fun w g vs hl B => by
 obtain ⟨d, h1, h2⟩ := row_of hu
 exact run_loadAt_mid w g 0 T vs d (fun j v hj => by rw [Nat.zero_add]; exact B.c j v hj) h1 h2 (by rw [hl]; exact hi)
theorem st_mid {T m : Nat} (hi : (Tryz.prog.info? T).map (·.size) = some m) : StV Tryz.prog T m := fun w g vs us hl hl' h1 B => by
 have ht : w.there g 0 us.toArray.size := fun j hj => by
  have hj' : j < vs.length := by simp at hj; omega
  rw [Nat.zero_add]
  exact ⟨by rw [B.c j _ (List.getElem?_eq_getElem hj')]; rfl, B.f j⟩
 rw [run_storeAt_mid w g 0 T us.toArray ht (by simp only [List.size_toArray]; rw [hl']; exact hi) (by simpa using h1), setCells_setL]
def z31 : List Value := [.string ⟨#[]⟩, .slice none 0 0, .slice none 0 0, .bool false, .slice none 0 0, .slice none 0 0, .slice none 0 0, .int .i64 0, .bool false, .slice none 0 0, .slice none 0 0, .slice none 0 0, .int .i64 0, .int .i64 0, .int .i64 0, .int .i64 0, .slice none 0 0, .slice none 0 0, .slice none 0 0, .slice none 0 0, .bool false, .slice none 0 0, .bool false, .slice none 0 0, .slice none 0 0, .slice none 0 0, .slice none 0 0, .slice none 0 0, .slice none 0 0, .slice none 0 0, .slice none 0 0]
theorem al_En (w : World) : (Instr.alloc 95 true (.tuple #[])).run Tryz.prog w = .ok (.pointer (some ⟨w.heap.size, 0, none⟩)) (w.alloc (.cells z31.toArray 95)) := by unfold z31; go_simp
theorem nwE : ∀ v ∈ z31, NoWord v := by
 intro v hv
 have : z31.all (fun v => match v with | .string _ => true | .slice _ _ _ => true | .int .i64 _ => true | .bool _ => true | _ => false) = true := rfl
 have h := List.all_eq_true.1 this v hv
 cases v with
 | string s => exact NoWord.string _
 | slice a n c => exact NoWord.slice _ _ _
 | bool b => exact NoWord.bool _
 | int q z => cases q <;> first | exact NoWord.int64 _ | simp at h
 | _ => simp at h
theorem ld_En : LdV Tryz.prog 95 31 := ld_mid (by kernel_rfl) (by kernel_rfl)
theorem st_En : StV Tryz.prog 95 31 := st_mid (by kernel_rfl)
theorem ld_He : LdV Tryz.prog 98 32 := ld_mid (by kernel_rfl) (by kernel_rfl)
theorem st_He : StV Tryz.prog 98 32 := st_mid (by kernel_rfl)
end Go.Proofs.YtkeikfekkdplgaaGreatDoor
namespace Go.Proofs.YtkeikfekkdplgaaGreatDoor
open Go Go.RowKit Go.Maps Go.Shelf

attribute [local go_sem] Oper.semAt_some
theorem back_c (w : World) (a : Option Addr) (n c : Nat) : Calls Tryz.prog 135 #[.slice a n c] w fun e w' => e = .returned (.func (.func 179) #[] #[.pointer (some ⟨w.heap.size, 0, none⟩)]) ∧ w' = w.alloc (.cells #[.slice a n c] 197) := by
 have hmf : ∀ (fn : Fn) (first cap : Array Value) (w : World), (Instr.makeFunc fn first cap).run Tryz.prog w = .ok (.func fn first cap) w := fun _ _ _ _ => rfl
 go_enter Tryz.func135, Tryz.ntmps135
 go_wp2_with fail
 go_ret
 exact ⟨rfl, rfl⟩
theorem turned_rm {h b : Nat} {w w' : World} (t : w.mapTurned w' b) (hb : b = h ∨ b = h + 1) : Rm h w w' := by
 have hg := t.grown
 obtain ⟨es, clock, _, _, hm, _⟩ := t
 refine ⟨hg.os, hg.tape, hg.output, hg.size, fun k hk hh => hg.block k hk (fun e => by injection e with e; omega), ⟨hg.size, fun p x hp => ?_⟩⟩
 have hl := World.block_lt_of_cell? w p hp
 refine (World.cell?_of_block (w := w) (a := p) (hg.block p.block hl (fun e => ?_))).trans hp
 injection e with e
 obtain ⟨o, h1, h2⟩ := cells_of_cell hp
 rw [e, hm] at h1
 cases h1
 cases h2
theorem wp_mu {P : Program} {Q : Exit → Act → World → Prop} {o : Oper} {a : Act} {W w' : World} {K : Act → World → Prop} {t : Nat} {x y z : Operand} {m key val : Value} (hx : a.eval x = m) (hy : a.eval y = key) (hz : a.eval z = val) (hr : (Instr.mapUpdate t m key val).run P W = .ok () w') (hK : K a w') (ho : o.op = .mapUpdate t x y z := by rfl) (hd : o.dst = none := by rfl) : Oper.wp P o a W K Q := by
 have h9 : (execOp a.eval o).run P W = .ok .skip w' := by
  unfold execOp
  rw [ho]
  dsimp only
  rw [hx, hy, hz]
  simp [hr]
 unfold Oper.wp
 rw [h9]
 show K (a.put o.dst undef) w'
 rw [hd]
 exact hK
theorem wp_mvA {P : Program} {Q : Exit → Act → World → Prop} {o : Oper} {a : Act} {W : World} {K : Act → World → Prop} {x : Operand} {u : Value} (hx : a.eval x = u) (hK : K (a.put o.dst u) W) (ho : o.op = .assign x := by rfl) : Oper.wp P o a W K Q := by
 have h9 : (execOp a.eval o).run P W = .ok (.value u) W := by
  unfold execOp
  rw [ho]
  dsimp only
  rw [hx]
  simp
 unfold Oper.wp
 rw [h9]
 exact hK
theorem fa_Mc2 (g : Nat) (w : World) : (Instr.fieldAt 154 (.pointer (some ⟨g, 0, none⟩)) 2).run Tryz.prog w = .ok (.pointer (some ⟨g, 2, none⟩)) w := by go_simp
theorem fa_Mc3 (g : Nat) (w : World) : (Instr.fieldAt 154 (.pointer (some ⟨g, 0, none⟩)) 3).run Tryz.prog w = .ok (.pointer (some ⟨g, 3, none⟩)) w := by go_simp
theorem ld_ai : LdC1 Tryz.prog 41 := fun w a v h => by go_simp
theorem ld_aI : LdC1 Tryz.prog 69 := fun w a v h => by go_simp
theorem ld_ShM {w : World} {g o : Nat} {v : Value} (h : World.cell? w ⟨g, o, none⟩ = some v) : (Instr.loadAt 39 (.pointer (some ⟨g, o, none⟩))).run Tryz.prog w = .ok (.agg #[v]) w := by
 obtain ⟨d, h1, h2⟩ := row_of (T := 39) (by kernel_rfl)
 exact run_loadAt_mid w g o 39 [v] d (fun j u hj => by
  rcases j with _ | j
  ·simp at hj; subst hj; exact h
  ·simp at hj) h1 h2 (by kernel_rfl)
theorem Bk.grown {W W' : World} {g b : Nat} {vs : List Value} (B : Bk W g vs) (hg : W.grownBy W' (some b)) (hne : g ≠ b) : Bk W' g vs := by
 have hb := hg.block g B.lt (fun e => hne (by injection e))
 exact ⟨fun j v hj => (World.cell?_of_block (w := W) (a := ⟨g, j, none⟩) hb).trans (B.c j v hj), fun j => (World.frozen?_of_block (w := W) (a := ⟨g, j, none⟩) hb).trans (B.f j), Nat.lt_of_lt_of_le B.lt hg.size⟩
theorem obD {W : World} {D : Nat} {p q : Option (List Deferred)} (h : W.heap[D]? = some (.deferred p)) : Ob D W (W.putObj D (.deferred q)) := by
 have hs : (W.putObj D (.deferred q)).heap.size = W.heap.size := by simp [World.putObj]
 have hb : ∀ k, k ≠ D → (W.putObj D (.deferred q)).heap[k]? = W.heap[k]? := fun k hk => World.putObj_heap_other (by omega)
 refine ⟨rfl, rfl, rfl, by omega, fun k _ hg => hb k hg, ⟨by omega, fun p x hp => ?_⟩⟩
 refine (World.cell?_of_block (w := W) (a := p) (hb p.block fun e => ?_)).trans hp
 obtain ⟨o, h1, h2⟩ := cells_of_cell hp
 rw [e, h] at h1
 cases h1
 cases h2
theorem Rm.ob {h g : Nat} {w0 w w' : World} (r : Rm h w0 w) (e : Ob g w w') (hg : w0.heap.size ≤ g) : Rm h w0 w' :=
 ⟨e.os.trans r.os, e.tape.trans r.tape, e.output.trans r.output, Nat.le_trans r.size e.size, fun k hk hh => (e.block k (Nat.lt_of_lt_of_le hk r.size) (by omega)).trans (r.block k hk hh), r.gr.trans e.gr⟩
theorem MAt.grown {m : Mc} {left b : Nat} {w w' : World} (x : MAt m left w) (hg : w.grownBy w' (some b)) (hb : b = m.h ∨ b = m.h + 1) : MAt m left w' := ⟨x.bk.grown hg (by omega), x.fit⟩
theorem MAt.ob {m : Mc} {left g : Nat} {w w' : World} (x : MAt m left w) (e : Ob g w w') (hg : m.h + 2 ≠ g) : MAt m left w' := ⟨e.bk x.bk hg, x.fit⟩
/-- A hypothesis enters the machine's map. -/
theorem JJ.use {h : Nat} {l : List ByteArray} {w : World} {hp : Int} (hw : (Lit.int .i64 hp).wf = true) (j : JJ h (l, []) w) : ∃ w', (Instr.mapUpdate 152 (.map (some (h + 1))) (.int .i64 hp) (.bool true)).run Tryz.prog w = .ok () w' ∧ JJ h (l, [hp]) w' ∧ w.mapTurned w' (h + 1) := by
 obtain ⟨w', hrun, own2, tur⟩ := j.2.2.2.store lawI ty_mi (by show 0 < maxLen; decide) (key := .int .i64 hp) (val := .bool true) (kl := .int .i64 hp) (d := .lit (.bool true)) (ps := []) (keyOf_int_mk ty_int hw) (plainElem_bool ty_bool true)
 refine ⟨w', hrun, ⟨j.1, Nat.le_refl _, ?_, own2⟩, tur⟩
 obtain ⟨es, clock, hb, F, hs, hD⟩ := j.2.2.1
 exact ⟨es, clock, ((tur.grown).block h (by have := (Array.getElem?_eq_some_iff.1 hb).1; exact this) (fun e => by injection e with e; omega)).trans hb, F, hs, hD⟩
set_option maxRecDepth 100000 in
set_option maxHeartbeats 4000000 in
theorem use_c {w : World} {m : Mc} {left gh cc : Nat} {l : List ByteArray} {hp : Int} (hM : MAt m left w) (hj : JJ m.h (l, []) w) (hh : m.h + 3 ≤ w.heap.size) (hw : (Lit.int .i64 hp).wf = true) (hc : World.cell? w ⟨gh, 0, none⟩ = some (.int .i64 hp)) :
  Calls Tryz.prog 134 #[.pointer (some ⟨m.h + 2, 0, none⟩), .slice (some ⟨gh, 0, none⟩) 1 cc] w (fun e w' => e = .returned (.tuple #[]) ∧ Rm m.h w w' ∧ MAt m left w' ∧ JJ m.h (l, [hp]) w') := by
 go_enter Tryz.func134, Tryz.ntmps134
 go_wp2
 refine wp_loop_rounds 2 ?_
 rw [rounds_succ]
 go_upto_region 3 with (fail)
 refine rgs 5 [some 12, some 13, some 14, some 15, some 16] [IsV (.pointer (some ⟨m.h + 2, 0, none⟩)), IsV (.pointer (some ⟨m.h + 2, 0, none⟩)), IsV (.pointer (some ⟨m.h + 2, 6, none⟩)), IsV (.map (some (m.h + 1))), IsV (.int .i64 hp)] [] ?_ ?_ (hst := by repeat' (first | exact trivial | exact IsV.stb _ | apply And.intro))
 ·refine Rc (mv (Od.lit 0)) ?_
  refine Rc (nc (p := ⟨m.h + 2, 0, none⟩) (Od.lc 0 12)) ?_
  refine Rc (fa (fa_Mc6 (m.h + 2)) (Od.lc 1 13)) ?_
  refine Rc (lvC 6 hM.bk ld_mi (Od.lc 2 14)) ?_
  refine Rc (mv (Od.lit 5)) ?_
  exact RgAll.nil
 intro v X1 e1 hΦ _
 replace hj := (JJ.inv m.h).ext hj e1 hh
 replace hM := hM.ext e1
 simp only [layL, Act.put, uAx, u0x, u1x, Nat.reduceAdd]
 rw [show v 3 = .map (some (m.h + 1)) from hΦ 3 (by decide), show v 4 = .int .i64 hp from hΦ 4 (by decide)]
 clear hΦ
 obtain ⟨w2, hrun, hj2, tur⟩ := hj.use hw
 have R := (Rm.ext (h := m.h) e1).trans (turned_rm (h := m.h) tur (.inr rfl))
 have hM2 := hM.grown tur.grown (.inr rfl)
 try simp only [List.drop_succ_cons, List.drop_zero]
 (with_reducible refine stL ?_ (by rfl)); intro KK hKK
 refine wp_mu (by kernel_rfl) (by kernel_rfl) rfl hrun (hKK _ _ ?_)
 clear hKK
 refine wpList_nil ?_
 try simp only [Act.put]
 go_wp2_with fail
 rw [rounds_succ]
 go_wp2_with fail
 exact bodyPost_end (v := .tuple #[]) (by simp [results, Tryz.results134, go_sem]) rfl ⟨rfl, R, hM2, hj2⟩
end Go.Proofs.YtkeikfekkdplgaaGreatDoor
namespace Go.Proofs.YtkeikfekkdplgaaGreatDoor
open Go Go.RowKit Go.Maps Go.Shelf

attribute [local go_sem] Oper.semAt_some
/-- What Best hands back: an entry, and whether there is one. -/
def IsBest (H : Nat) (b : Bool) (vv hp : Int) : Value → World → Prop := fun x w => ∃ es : List Value, x = .agg es.toArray ∧ es.length = 31 ∧ es.all (fun u => u.oneCell') = true ∧ (∀ v ∈ es, NoWord v) ∧
 (b = true → ∃ gv gh s a n c, gv < H ∧ gh < H ∧ es[1]? = some (.slice (some ⟨gv, 0, none⟩) 1 1) ∧ World.cell? w ⟨gv, 0, none⟩ = some (.bool s) ∧ World.cell? w ⟨gv, 1, none⟩ = some (.slice a n c) ∧ IsI 128 vv (.agg #[.bool s, .slice a n c]) w ∧ es[30]? = some (.slice (some ⟨gh, 0, none⟩) 1 1) ∧ World.cell? w ⟨gh, 0, none⟩ = some (.int .i64 hp))
theorem IsBest.stb (H : Nat) (b : Bool) (vv hp : Int) : Stb (IsBest H b vv hp) := fun _ _ _ e ⟨es, h1, h2, h3, h4, h5⟩ => ⟨es, h1, h2, h3, h4, fun hb => let ⟨gv, gh, s, a, n, c, r1, r2, q1, q2, q2', q3, q4, q5⟩ := h5 hb; ⟨gv, gh, s, a, n, c, r1, r2, q1, e.cell q2, e.cell q2', q3.ext e, q4, e.cell q5⟩⟩
theorem fa_En1 (g : Nat) (w : World) : (Instr.fieldAt 95 (.pointer (some ⟨g, 0, none⟩)) 1).run Tryz.prog w = .ok (.pointer (some ⟨g, 1, none⟩)) w := by go_simp
set_option maxRecDepth 100000 in
set_option maxHeartbeats 8000000 in
theorem value_w {w : World} {h left : Nat} {ca va sa ga : Option Addr} {cn cc vn vc sn sc gn gc : Nat} {x : ByteArray} {vv hp : Int} {b : Bool} (hx : x.size ≤ maxLen) (hh : h + 3 ≤ w.heap.size) (hM : MAt ⟨h, .slice ca cn cc, .slice va vn vc, .slice sa sn sc, .slice ga gn gc⟩ left w) (hj : JJ h ([], []) w) (hw : (Lit.int .i64 hp).wf = true)
  (HB : Hid (∀ w', Rm h w w' → Calls Tryz.prog 137 #[.agg #[.slice sa sn sc], .string x, .slice ga gn gc] w' (Ret w' (IsT2 (IsBest h b vv hp) (IsV (.bool b))))) ) :
  Calls Tryz.prog 112 #[.pointer (some ⟨h + 2, 0, none⟩), .string x, .int .i64 0, .slice none 0 0] w (EvP ⟨h, .slice ca cn cc, .slice va vn vc, .slice sa sn sc, .slice ga gn gc⟩ (JJ h) w (bif b then (.ok ⟨vv, vv, true⟩, (left, ([x], [hp]))) else (.error 6, (left, ([x], []))))) := by
 obtain ⟨W, hW, E, B5, B8⟩ : ∃ W, W = (w.alloc (.cells #[.string x] 9)).alloc (.cells #[.bool false, .slice none 0 0, .bool false, .slice none 0 0, .bool false] 176) ∧ Ext w W ∧ Bk W w.heap.size [.string x] ∧ Bk W (w.heap.size + 1) [.bool false, .slice none 0 0, .bool false, .slice none 0 0, .bool false] :=
  ⟨_, rfl, ((Ext.refl w).alloc _).alloc _, (Bk.new w _ _).ext ((Ext.refl _).alloc _), Bk.newE _ _ (by simp) _ _⟩
 refine calls_of_wp_marks Tryz.func112 rfl ?_
 simp only [Tryz.ntmps112, List.size_toArray, List.length_cons, List.length_nil, Nat.reduceAdd, Nat.reduceSub, Array.replicate_succ, Array.replicate_zero, List.push_toArray, List.append_toArray, List.nil_append, List.cons_append]
 go_upto_region 1 with (fail)
 rw [← hW]
 clear hW
 go_wp2_with (go_at_call 135; refine (back_c _ _ _ _).mono ?_; rintro e w1 ⟨rfl, rfl⟩)
 have hwc := B8.lt
 obtain ⟨c, hc⟩ : ∃ c, W.heap.size = c := ⟨_, rfl⟩
 rw [hc] at hwc
 obtain ⟨w1, hw1, E1, hcl, hcb⟩ : ∃ w1, w1 = W.alloc (.cells #[.slice none 0 0] 197) ∧ Ext W w1 ∧ c < w1.heap.size ∧ w1.cell? ⟨c, 0, none⟩ = some (.slice none 0 0) := ⟨_, rfl, (Ext.refl _).alloc _, by rw [← hc]; simp, by rw [← hc]; simp⟩
 rw [← hw1, hc]
 clear hw1
 refine wpIn_wide.1 (wpIn_rangeFunc_box (α := Empty) (n := 9) rfl (by decide) (gf := 179) (lb := #[.pointer (some ⟨c, 0, none⟩)]) rfl trivial (en Tryz.func179) (c := c) hcl
  (backSeq trivial rfl hcl hcb) (fun y => nomatch y)
  (fun _ W' => Below c w1 W') (fun _ _ _ => False)
  ?own (fun _ _ _ _ _ h _ _ => h) ?lone (fun _ _ _ _ h _ => h) (Below.refl _ _) (fun y => nomatch y) (fun _ y => nomatch y) (fun _ _ y => nomatch y) ?done (fun _ _ _ _ _ _ h _ => h.elim))
 case own => exact fun s A B row hA hg hr => Below.grown hA hg (Nat.le_trans (Nat.le_of_lt hcl) hA.size) (fun k hk => Nat.le_trans (Nat.le_of_lt hcl) (hr k hk).1)
 case lone => exact fun s A B hA hg => lone_below hA hg (Nat.le_of_lt hcl) (Nat.le_refl _)
 case done =>
  rintro D xs W' hD rfl hI hK
  have EW : Ext W W' := Below.trans E1 (by rw [← hc] at hI; exact hI)
  replace E := E.trans EW
  have hM2 := hM.ext E
  have hj2 := (JJ.inv h).ext hj E hh
  replace B5 := B5.ext EW
  replace B8 := B8.ext EW
  have hDW : c < D := Nat.lt_of_lt_of_le hcl hD
  clear hcb hI E1 EW hcl
  go_upto_region 4 with (fail)
  have hDl : D < W'.heap.size := (Array.getElem?_eq_some_iff.1 hK).1
  refine rg 5 [some 23, some 24, some 25, some 26, some 27] [IsV (.pointer (some ⟨h + 2, 0, none⟩)), IsV (.pointer (some ⟨h + 2, 0, none⟩)), IsV (.pointer (some ⟨h + 2, 5, none⟩)), IsV (.map (some h)), IsV (.string x)] [] 1 ?_ ?_ (hst := by repeat' (first | exact trivial | exact IsV.stb _ | exact IsI.stb _ _ | exact IsKn.stb _ _ _ _ | exact IsT2.stb (IsBest.stb _ _ _ _) (IsV.stb _) | exact IsBest.stb _ _ _ _ | exact IsNb.stb _ _ | apply And.intro))
  ·refine Rc (mv (Od.lit 0)) ?_
   refine Rc (nc (p := ⟨h + 2, 0, none⟩) (Od.lc 0 23)) ?_
   refine Rc (fa (fa_Mc5 (h + 2)) (Od.lc 1 24)) ?_
   refine Rc (lvC 5 hM2.bk ld_ms (Od.lc 2 25)) ?_
   refine Rc (lvC 0 B5 ld_str (Od.lit 5)) ?_
   exact RgAll.nil
  intro v X1 e1 hΦ _
  replace E := E.trans e1
  replace hj2 := (JJ.inv h).ext hj2 e1 hM2.bk.lt
  replace hM2 := hM2.ext e1
  replace B5 := B5.ext e1
  replace B8 := B8.ext e1
  replace hK := (e1.block D hDl).trans hK
  replace hDl := Nat.lt_of_lt_of_le hDl e1.size
  simp only [layL, Act.put, uAx, u0x, u1x, Nat.reduceAdd]
  rw [show v 3 = .map (some h) from hΦ 3 (by decide), show v 4 = .string x from hΦ 4 (by decide)]
  clear hΦ e1
  obtain ⟨X2, hrun, own2, tur⟩ := hj2.2.2.1.store lawS ty_ms (by decide) (key := .string x) (val := .bool true) (kl := .string x.data.toList) (d := .lit (.bool true)) (ps := []) (WideMaps.keyOf_string_mk ty_str hx) (plainElem_bool ty_bool true)
  have R := turned_rm (h := h) tur (.inl rfl)
  have hj3 : JJ h ([x], []) X2 := ⟨Nat.le_refl _, Nat.zero_le _, own2, by
   obtain ⟨es, clock, hb, F, hs, hD'⟩ := hj2.2.2.2
   exact ⟨es, clock, ((tur.grown).block (h + 1) (by have := (Array.getElem?_eq_some_iff.1 hb).1; exact this) (fun e => by injection e with e; omega)).trans hb, F, hs, hD'⟩⟩
  refine stA 5 (h := fun K hK' => ?_)
  refine wp_mu (by kernel_rfl) (by kernel_rfl) rfl hrun (hK' _ _ ?_)
  have RR := (Rm.ext E).trans R
  replace hM2 : MAt ⟨h, .slice ca cn cc, .slice va vn vc, .slice sa sn sc, .slice ga gn gc⟩ left X2 := ⟨hM2.bk.grown tur.grown (by simp only; omega), hM2.fit⟩
  replace B5 := R.bk B5 (by omega)
  replace B8 := R.bk B8 (by omega)
  replace hK := (R.block D hDl (by omega)).trans hK
  replace hDl := Nat.lt_of_lt_of_le hDl R.size
  clear hK' hj2 own2 tur hrun E R
  refine wpAny_done (by kernel_rfl) ?_ _
  go_upto_region 5 with (fail)
  have hX2 := hM2.bk.lt
  refine rgO 14 [12] [some 29, some 30, some 31, some 32, some 33, some 34, some 35, some 36, some 37, some 38, some 28, some 39, some 40, some 11] [IsV (.pointer (some ⟨h + 2, 0, none⟩)), IsV (.pointer (some ⟨h + 2, 0, none⟩)), IsV (.pointer (some ⟨h + 2, 2, none⟩)), IsV (.agg #[.slice sa sn sc]), IsV (.string x), IsV (.pointer (some ⟨h + 2, 0, none⟩)), IsV (.pointer (some ⟨h + 2, 0, none⟩)), IsV (.pointer (some ⟨h + 2, 3, none⟩)), IsV (.slice ga gn gc), IsT2 (IsBest h b vv hp) (IsV (.bool b)), IsT2 (IsBest h b vv hp) (IsV (.bool b)), IsBest h b vv hp, IsV (.bool b), IsNb X2.heap.size z31] [] 2 ?_ ?_ ?_ (hst := by repeat' (first | exact trivial | exact IsV.stb _ | exact IsI.stb _ _ | exact IsKn.stb _ _ _ _ | exact IsT2.stb (IsBest.stb _ _ _ _) (IsV.stb _) | exact IsBest.stb _ _ _ _ | exact IsNb.stb _ _ | apply And.intro))
  ·intro i hi v w' hE hd
   obtain rfl : i = 12 := by simpa using hi
   have d0 : IsT2 (IsBest h b vv hp) (IsV (.bool b)) (v 10) w' := hd 10 (by kernel_rfl)
   obtain ⟨x0, x1, z0, y0, y1⟩ := d0
   refine ⟨.bool b, _, rfl, Or.inl ⟨by rfl, ?_⟩, rfl⟩
   intro w9
   simp only [layL, Act.put, uAx, u0x, u1x, Nat.reduceAdd]
   rw [z0]
   obtain rfl : x1 = .bool b := y1
   go_simp
  ·refine Rc (mv (Od.lit 0)) ?_
   refine Rc (nc (p := ⟨h + 2, 0, none⟩) (Od.lc 0 29)) ?_
   refine Rc (fa (fa_Mc2 (h + 2)) (Od.lc 1 30)) ?_
   refine Rc (lv (Φ := IsV (.agg #[.slice sa sn sc])) _ (fun w' e => ld_ShM ((hM2.bk.ext e).c 2 _ rfl)) (Od.lc 2 31) (fun _ _ => rfl)) ?_
   refine Rc (lvC 0 B5 ld_str (Od.lit 5)) ?_
   refine Rc (mv (Od.lit 0)) ?_
   refine Rc (nc (p := ⟨h + 2, 0, none⟩) (Od.lc 5 34)) ?_
   refine Rc (fa (fa_Mc3 (h + 2)) (Od.lc 6 35)) ?_
   refine Rc (lvC 3 hM2.bk ld_ai (Od.lc 7 36)) ?_
   refine Rc (cl3 (en Tryz.func137) (Od.lc (Φ := IsV (.agg #[.slice sa sn sc])) 3 32) (Od.lc (Φ := IsV (.string x)) 4 33) (Od.lc (Φ := IsV (.slice ga gn gc)) 8 37) (fun x0 x1 x2 w' hE d0 d1 d2 => by { obtain rfl : x0 = _ := d0; obtain rfl : x1 = _ := d1; obtain rfl : x2 = _ := d2; exact HB.out w' (RR.trans (Rm.ext hE)) })) ?_
   refine Rc (mv (Od.lc 9 38)) ?_
   refine Rc (ex (Od.lc (Φ := IsT2 (IsBest h b vv hp) (IsV (.bool b))) 10 28) (fun u w' hu => let ⟨a, b', h1, h2, h3⟩ := hu; ⟨_, h1, a, rfl, h2⟩)) ?_
   refine Rc (ex (Od.lc (Φ := IsT2 (IsBest h b vv hp) (IsV (.bool b))) 10 28) (fun u w' hu => let ⟨a, b', h1, h2, h3⟩ := hu; ⟨_, h1, b', rfl, h3⟩)) ?_
   refine Rc (alB al_En (Nat.le_refl _)) ?_
   exact RgAll.nil
  intro v X3 e1 hΦ _
  obtain ⟨es, hv11, hes, hone, hnw, hbest⟩ := hΦ 11 (by decide)
  obtain ⟨g11, hv13, hg11, B11⟩ := hΦ 13 (by decide)
  simp only [layL, Act.put, uAx, u0x, u1x, Nat.reduceAdd]
  rw [hv11, hv13, show v 12 = .bool b from hΦ 12 (by decide)]
  clear hΦ hv11 hv13
  refine stA 14 (h := fun K hK' => ?_)
  refine stVO (us := es) B11 st_En rfl hes nwE (fun X4 B11' O => hK' _ _ ?_) (ho1 := hone)
  have e2 := O.ext e1 hg11
  have hb4 : b = true → ∃ gv gh s a n c, gv < h ∧ gh < h ∧ es[1]? = some (.slice (some ⟨gv, 0, none⟩) 1 1) ∧ World.cell? X4 ⟨gv, 0, none⟩ = some (.bool s) ∧ World.cell? X4 ⟨gv, 1, none⟩ = some (.slice a n c) ∧ IsI 128 vv (.agg #[.bool s, .slice a n c]) X4 ∧ es[30]? = some (.slice (some ⟨gh, 0, none⟩) 1 1) ∧ World.cell? X4 ⟨gh, 0, none⟩ = some (.int .i64 hp) := fun hb => by
   obtain ⟨gv, gh, s, a, n, c, r1, r2, q1, q2, q2', q3, q4, q5⟩ := hbest hb
   have hs := RR.size
   exact ⟨gv, gh, s, a, n, c, r1, r2, q1, (World.cell?_of_block (w := X3) (a := ⟨gv, 0, none⟩) (O.block gv (by omega))).trans q2, (World.cell?_of_block (w := X3) (a := ⟨gv, 1, none⟩) (O.block gv (by omega))).trans q2', IsI.gstb _ _ _ _ _ O.gr q3, q4, (World.cell?_of_block (w := X3) (a := ⟨gh, 0, none⟩) (O.block gh (by omega))).trans q5⟩
  replace hj3 := (JJ.inv h).ext hj3 e2 hX2
  replace hM2 := hM2.ext e2
  replace RR := RR.trans (Rm.ext e2)
  replace B8 := B8.ext e2
  replace hK := (e2.block D hDl).trans hK
  replace hDl := Nat.lt_of_lt_of_le hDl e2.size
  have hg8 : X2.heap.size ≤ g11 := hg11
  clear hK' O e1 e2 B11 hbest B5 HB
  refine stA 15 (h := fun K hK' => ?_)
  refine wp_mvA (u := .bool b) (by kernel_rfl) (hK' _ _ ?_)
  clear hK'
  refine wpAny_done (by kernel_rfl) ?_ _
  simp only [Act.put, uAx, u0x, u1x, Nat.reduceAdd]
  cases b with
  | false =>
   refine NoPanic.normal ?_
   go_wp2_with fail
   have O := obD (q := none) hK
   exact marks_panic1 hK ⟨RR.ob O (by omega), hM2.ob O (by simp only; omega), hj3.ob O (by omega) (by omega), rfl⟩
  | true =>
   refine NoPanic.normal ?_
   obtain ⟨gv, gh, s, a, n, c', r1, r2, q1, q2, q2', q3, q4, q5⟩ := hb4 rfl
   clear hb4
   have c30 := B11'.c 30 _ q4
   have c1 := B11'.c 1 _ q1
   have hX4 : h + 3 ≤ X4.heap.size := by have := RR.size; omega
   have hmod : True := trivial
   go_upto_region 9 with (go_at_call 134; refine (use_c (m := ⟨h, .slice ca cn cc, .slice va vn vc, .slice sa sn sc, .slice ga gn gc⟩) hM2 hj3 hX4 hw q5).mono ?_; rintro e w5 ⟨rfl, R5, M5, J5⟩)
   replace B11' := R5.bk B11' (by omega)
   replace B8 := R5.bk B8 (by omega)
   replace hK := (R5.block D hDl (by omega)).trans hK
   replace hDl := Nat.lt_of_lt_of_le hDl R5.size
   replace RR := RR.trans R5
   replace q2 := R5.cell q2 (.inl r1)
   replace q2' := R5.cell q2' (.inl r1)
   replace q3 := IsI.gstb _ _ _ _ _ R5.gr q3
   have hg12 : g11 < w5.heap.size := B11'.lt
   have hX5 : h + 3 ≤ w5.heap.size := by have := RR.size; omega
   clear c30 q5 hM2 hj3 hX4 c1
   have c1 := B11'.c 1 _ q1
   go_upto_region 11 with (fail)
   clear c1
   refine rgs 6 [some 56, some 57, some 58, some 59, some 60, some 61] [IsV (.pointer (some ⟨g11, 1, none⟩)), IsV (.slice (some ⟨gv, 0, none⟩) 1 1), IsV (.int .i64 0), IsV (.pointer (some ⟨gv, 0, none⟩)), IsI 128 vv, IsKn 128 vv vv true] [] ?_ ?_ (hst := by repeat' (first | exact trivial | exact IsV.stb _ | exact IsI.stb _ _ | exact IsKn.stb _ _ _ _ | apply And.intro))
   ·refine Rc (fa (fa_En1 g11) (Od.lit 11)) ?_
    refine Rc (lvC 1 B11' ld_aI (Od.lc 0 56) q1) ?_
    refine Rc (mv (Od.lit 2)) ?_
    refine Rc (ixq (u := .int .i64 0) (ix_Int gv 1 1 0 (by decide)) (Od.lc 1 57) (Od.lc 2 58)) ?_
    refine Rc (lv (Φ := IsI 128 vv) _ (fun w' e => ld_Int w' gv 0 s a n c' (e.cell q2) (e.cell q2')) (Od.lc 3 59) (fun w' e => q3.ext e)) ?_
    refine Rc (cl1 (en Tryz.func109) (Od.lc (Φ := IsI 128 vv) 4 60) (fun x0 w' hE d0 => exact_f d0)) ?_
    exact RgAll.nil
   intro v X6 e6 hΦ _
   obtain ⟨s5, a5, n5, c5, s6, a6, n6, c6, hv, g1, g2⟩ := hΦ 5 (by decide)
   obtain ⟨fq, hfq⟩ : ∃ f, true = f := ⟨_, rfl⟩
   simp only [layL, Act.put, uAx, u0x, u1x, Nat.reduceAdd]
   rw [hv, hfq]
   replace B8 := B8.ext e6
   replace M5 := M5.ext e6
   replace J5 := (JJ.inv h).ext J5 e6 hX5
   replace RR := RR.trans (Rm.ext e6)
   replace hK := (e6.block D hDl).trans hK
   replace hDl := Nat.lt_of_lt_of_le hDl e6.size
   clear hv hΦ e6 q1 q2 q2' q3 q4
   refine stL (fun K hK' => ?_)
   refine stVO (us := [.bool s5, .slice a5 n5 c5, .bool s6, .slice a6 n6 c6, .bool fq]) B8 st_Kn rfl rfl nw5 (fun X9 B9 O => hK' _ _ ?_)
   have O' := Ob.only O
   replace g1 := IsI.gstb _ _ _ _ _ O.gr g1
   replace g2 := IsI.gstb _ _ _ _ _ O.gr g2
   replace M5 := M5.ob O' (by simp only; omega)
   replace J5 := J5.ob O' (by omega) (by omega)
   replace RR := RR.ob O' (by omega)
   replace hK := (O.block D (by omega)).trans hK
   refine wpList_nil ?_
   clear hK' K O O'
   go_wp2_with fail
   have O := obD (q := none) hK
   replace B9 := O.bk B9 (by omega)
   have d0 := B9.c 0 _ rfl; have d1 := B9.c 1 _ rfl; have d2 := B9.c 2 _ rfl; have d3 := B9.c 3 _ rfl; have d4 := B9.c 4 _ rfl
   exact marks_ret1 hK (v := .agg #[.bool s5, .slice a5 n5 c5, .bool s6, .slice a6 n6 c6, .bool fq]) (by simp [results, Tryz.results112, go_sem, d0, d1, d2, d3, d4]) ⟨RR.ob O (by omega), M5.ob O (by simp only; omega), J5.ob O (by omega) (by omega), _, rfl, _, _, _, _, _, _, _, _, by rw [hfq], IsI.gstb _ _ _ _ _ O.gr g1, IsI.gstb _ _ _ _ _ O.gr g2⟩
end Go.Proofs.YtkeikfekkdplgaaGreatDoor
