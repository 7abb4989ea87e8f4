/-
 Package merge, slices: rows of at most one Held.
 Package merge: Find and Best at a shelf of at most one Held.
-/
import Derived.Test.YtkeikfekkdplgaaGreatDoorEv21
namespace Go.Proofs.YtkeikfekkdplgaaGreatDoor
open Go Go.RowKit Go.Maps Go.Shelf

attribute [local go_sem] Oper.semAt_some
/-- A row of at most one Held. -/
def HsR (o : Option (List Value)) (v : Value) (w : World) : Prop := match o with
 | none => v = .slice none 0 0
 | some hs => ∃ g c, v = .slice (some ⟨g, 0, none⟩) 1 c ∧ Bk w g hs ∧ hs.length = 32 ∧ hs.all (fun u => u.oneCell') = true ∧ ∀ u ∈ hs, NoWord u
theorem HsR.ext {o : Option (List Value)} {v : Value} {w w' : World} (h : HsR o v w) (e : Ext w w') : HsR o v w' := by
 cases o with
 | none => exact h
 | some hs => obtain ⟨g, c, h1, h2, h3⟩ := h; exact ⟨g, c, h1, h2.ext e, h3⟩
theorem HsR.stb (o : Option (List Value)) : Stb (HsR o) := fun _ _ _ e h => h.ext e
theorem ix_He (g c : Nat) (w : World) : (Instr.indexAt 37 (.slice (some ⟨g, 0, none⟩) 1 c) (.int .i64 0)).run Tryz.prog w = .ok (.pointer (some ⟨g, 0, none⟩)) w := by go_simp
set_option maxRecDepth 100000 in
set_option maxHeartbeats 4000000 in
theorem idxH_f {w : World} {o : Option (List Value)} {v : Value} {f : FuncId} {caps : List Value} (he : ∀ args w, (callFunc f args).run Tryz.prog w = .ok (.enter f args) w) (hv : HsR o v w)
  (HF : ∀ hs, o = some hs → ∀ w', Ext w w' → Calls Tryz.prog f (.agg hs.toArray :: caps).toArray w' (Ret w' (IsV (.bool false)))) :
  Calls Tryz.prog 218 #[v, .func (.func f) #[] caps.toArray] w (Ret w (IsV (.int .i64 (-1)))) := by
 cases o with
 | none =>
  obtain rfl : v = .slice none 0 0 := hv
  go_enter Tryz.func218, Tryz.ntmps218
  go_wp2
  refine wp_loop_rounds 1 ?_
  rw [rounds_succ]
  go_wp2
  go_ret
  exact ⟨_, rfl, Ext.refl _, rfl⟩
 | some hs =>
  obtain ⟨g, c, rfl, B, hl, -, -⟩ := hv
  go_enter Tryz.func218, Tryz.ntmps218
  go_wp2
  refine wp_loop_rounds 2 ?_
  rw [rounds_succ]
  go_upto_region 4 with (fail)
  refine rgs 6 [some 11, some 12, some 13, some 14, some 15, some 16] [IsV (.func (.func f) #[] caps.toArray), IsV (.slice (some ⟨g, 0, none⟩) 1 c), IsV (.int .i64 0), IsV (.pointer (some ⟨g, 0, none⟩)), IsV (.agg hs.toArray), IsV (.bool false)] [] ?_ ?_ (hst := by repeat' (first | exact trivial | exact IsV.stb _ | apply And.intro))
  ·refine Rc (mv (Od.lit 1)) ?_
   refine Rc (mv (Od.lit 0)) ?_
   refine Rc (mv (Od.lit 5)) ?_
   refine Rc (ixq (ix_He g c) (Od.lc 1 12) (Od.lc 2 13)) ?_
   refine Rc (lvV B ld_He (Od.lc 3 14) hl) ?_
   refine Rc (cv1 (caps := caps) he (Od.lc 0 11) (Od.lc (Φ := IsV (.agg hs.toArray)) 4 15) (fun x0 w' hE d0 => by { obtain rfl : x0 = _ := d0; exact HF hs rfl w' hE })) ?_
   exact RgAll.nil
  intro v X1 e1 hΦ _
  simp only [layL, Act.put, uAx, u0x, u1x, Nat.reduceAdd]
  rw [show v 5 = .bool false from hΦ 5 (by decide)]
  clear hΦ
  refine wpList_nil ?_
  go_wp2_with fail
  rw [rounds_succ]
  go_wp2_with fail
  go_ret
  exact ⟨_, rfl, e1, rfl⟩
set_option maxRecDepth 100000 in
set_option maxHeartbeats 4000000 in
theorem delH_f {w : World} {o : Option (List Value)} {v : Value} {f : FuncId} {caps : List Value} (he : ∀ args w, (callFunc f args).run Tryz.prog w = .ok (.enter f args) w) (hv : HsR o v w)
  (HF : ∀ hs, o = some hs → ∀ w', Ext w w' → Calls Tryz.prog f (.agg hs.toArray :: caps).toArray w' (Ret w' (IsV (.bool false)))) :
  Calls Tryz.prog 183 #[v, .func (.func f) #[] caps.toArray] w (Ret w (IsV v)) := by
 go_enter Tryz.func183, Tryz.ntmps183
 go_wp2_with (go_at_call 218; refine (idxH_f he hv HF).mono ?_; rintro e w1 ⟨_, rfl, e1, rfl⟩)
 go_ret
 exact ⟨_, rfl, e1, rfl⟩
/-! ### Rows of integers -/
set_option maxRecDepth 100000 in
theorem idxI_f {w : World} {g c : Nat} (c0 : World.cell? w ⟨g, 0, none⟩ = some (.int .i64 1)) (c1 : World.cell? w ⟨g, 1, none⟩ = some (.int .i64 2)) : Calls Tryz.prog 220 #[.slice (some ⟨g, 0, none⟩) 2 c, .int .i64 2] w (Ret w (IsV (.int .i64 1))) := by
 go_enter Tryz.func220, Tryz.ntmps220
 go_wp2
 refine wp_loop_rounds 3 ?_
 rw [rounds_succ]
 go_wp2
 rw [rounds_succ]
 go_wp2
 go_ret
 exact ⟨_, rfl, Ext.refl _, rfl⟩
set_option maxRecDepth 100000 in
theorem hasI_f {w : World} {g c : Nat} (c0 : World.cell? w ⟨g, 0, none⟩ = some (.int .i64 1)) (c1 : World.cell? w ⟨g, 1, none⟩ = some (.int .i64 2)) : Calls Tryz.prog 187 #[.slice (some ⟨g, 0, none⟩) 2 c, .int .i64 2] w (Ret w (IsV (.bool true))) := by
 go_enter Tryz.func187, Tryz.ntmps187
 go_wp2_with (go_at_call 220; refine (idxI_f c0 c1).mono ?_; rintro e w1 ⟨_, rfl, e1, rfl⟩)
 go_ret
 exact ⟨_, rfl, e1, rfl⟩
set_option maxRecDepth 100000 in
theorem not2_f {w : World} {b g c : Nat} (cb : World.cell? w ⟨b, 0, none⟩ = some (.slice (some ⟨g, 0, none⟩) 2 c)) (c0 : World.cell? w ⟨g, 0, none⟩ = some (.int .i64 1)) (c1 : World.cell? w ⟨g, 1, none⟩ = some (.int .i64 2)) : Calls Tryz.prog 186 #[.int .i64 2, .pointer (some ⟨b, 0, none⟩)] w (Ret w (IsV (.bool false))) := by
 go_enter Tryz.func186, Tryz.ntmps186
 go_wp2_with (go_at_call 187; refine (hasI_f c0 c1).mono ?_; rintro e w1 ⟨_, rfl, e1, rfl⟩)
 go_ret
 exact ⟨_, rfl, e1, rfl⟩
set_option maxRecDepth 100000 in
theorem idxF_f {w : World} {b g gh c : Nat} (ch : World.cell? w ⟨gh, 0, none⟩ = some (.int .i64 2)) (cb : World.cell? w ⟨b, 0, none⟩ = some (.slice (some ⟨g, 0, none⟩) 2 c)) (c0 : World.cell? w ⟨g, 0, none⟩ = some (.int .i64 1)) (c1 : World.cell? w ⟨g, 1, none⟩ = some (.int .i64 2)) : Calls Tryz.prog 219 #[.slice (some ⟨gh, 0, none⟩) 1 1, .func (.func 186) #[] #[.pointer (some ⟨b, 0, none⟩)]] w (Ret w (IsV (.int .i64 (-1)))) := by
 have he := en Tryz.func186
 go_enter Tryz.func219, Tryz.ntmps219
 go_wp2
 refine wp_loop_rounds 2 ?_
 rw [rounds_succ]
 go_wp2_with (go_at_call 186; refine (not2_f cb c0 c1).mono ?_; rintro e w1 ⟨_, rfl, e1, rfl⟩)
 rw [rounds_succ]
 go_wp2
 go_ret
 exact ⟨_, rfl, e1, rfl⟩
set_option maxRecDepth 100000 in
theorem conF_f {w : World} {b g gh c : Nat} (ch : World.cell? w ⟨gh, 0, none⟩ = some (.int .i64 2)) (cb : World.cell? w ⟨b, 0, none⟩ = some (.slice (some ⟨g, 0, none⟩) 2 c)) (c0 : World.cell? w ⟨g, 0, none⟩ = some (.int .i64 1)) (c1 : World.cell? w ⟨g, 1, none⟩ = some (.int .i64 2)) : Calls Tryz.prog 185 #[.slice (some ⟨gh, 0, none⟩) 1 1, .func (.func 186) #[] #[.pointer (some ⟨b, 0, none⟩)]] w (Ret w (IsV (.bool false))) := by
 go_enter Tryz.func185, Tryz.ntmps185
 go_wp2_with (go_at_call 219; refine (idxF_f ch cb c0 c1).mono ?_; rintro e w1 ⟨_, rfl, e1, rfl⟩)
 go_ret
 exact ⟨_, rfl, e1, rfl⟩
/-! ### The closures of Best and Find -/
set_option maxRecDepth 100000 in
set_option maxHeartbeats 4000000 in
theorem find1_f {w : World} {hs : List Value} {x : ByteArray} {b : Nat} (h0 : hs[0]? = some (.string x)) (cb : World.cell? w ⟨b, 0, none⟩ = some (.string x)) : Calls Tryz.prog 217 #[.agg hs.toArray, .pointer (some ⟨b, 0, none⟩)] w (Ret w (IsV (.bool false))) := by
 obtain ⟨W, hW, E, c0⟩ : ∃ W, W = w.alloc (.cells hs.toArray 98) ∧ Ext w W ∧ World.cell? W ⟨w.heap.size, 0, none⟩ = some (.string x) := ⟨_, rfl, (Ext.refl w).alloc _, (Bk.new w hs.toArray _).c 0 _ h0⟩
 replace cb := E.cell cb
 go_enter Tryz.func217, Tryz.ntmps217
 go_upto_region 1 with (fail)
 rw [← hW]
 clear hW
 go_wp2_with fail
 go_ret
 exact ⟨_, rfl, E, rfl⟩
set_option maxRecDepth 100000 in
set_option maxHeartbeats 4000000 in
theorem best1_f {w : World} {hs : List Value} {b g c gh : Nat} (h30 : hs[30]? = some (.slice (some ⟨gh, 0, none⟩) 1 1)) (ch : World.cell? w ⟨gh, 0, none⟩ = some (.int .i64 2)) (cb : World.cell? w ⟨b, 0, none⟩ = some (.slice (some ⟨g, 0, none⟩) 2 c)) (c0 : World.cell? w ⟨g, 0, none⟩ = some (.int .i64 1)) (c1 : World.cell? w ⟨g, 1, none⟩ = some (.int .i64 2)) :
  Calls Tryz.prog 184 #[.agg hs.toArray, .pointer (some ⟨b, 0, none⟩)] w (Ret w (IsV (.bool false))) := by
 obtain ⟨W, hW, E, c30⟩ : ∃ W, W = w.alloc (.cells hs.toArray 98) ∧ Ext w W ∧ World.cell? W ⟨w.heap.size, 30, none⟩ = some (.slice (some ⟨gh, 0, none⟩) 1 1) := ⟨_, rfl, (Ext.refl w).alloc _, (Bk.new w hs.toArray _).c 30 _ h30⟩
 have hmf : ∀ (fn : Fn) (first cap : Array Value) (w : World), (Instr.makeFunc fn first cap).run Tryz.prog w = .ok (.func fn first cap) w := fun _ _ _ _ => rfl
 replace cb := E.cell cb
 replace ch := E.cell ch
 replace c0 := E.cell c0
 replace c1 := E.cell c1
 go_enter Tryz.func184, Tryz.ntmps184
 go_upto_region 1 with (fail)
 rw [← hW]
 clear hW
 go_wp2_with (go_at_call 185; refine (conF_f ch cb c0 c1).mono ?_; rintro e w1 ⟨_, rfl, e1, rfl⟩)
 go_ret
 exact ⟨_, rfl, E.trans e1, rfl⟩
/-! ### A Held more -/
theorem Bk.pre {w : World} {g : Nat} {us vs : List Value} (B : Bk w g (us ++ vs)) : Bk w g us := ⟨fun j v hj => B.c j v (by rw [List.getElem?_append_left (List.getElem?_eq_some_iff.1 hj).1]; exact hj), B.f, B.lt⟩
theorem apH_run {w : World} {hs : List Value} {ty : TypeId} {base : Option Addr} {g c : Nat} (B : Bk w g hs) (hl : hs.length = 32) (h1 : hs.all (fun u => u.oneCell') = true) :
  ∃ g' c' w', (Builtin.append_ #[37, 37] ty #[.slice base 0 0, .slice (some ⟨g, 0, none⟩) 1 c]).run Tryz.prog w = .ok (.slice (some ⟨g', 0, none⟩) 1 c') w' ∧ Ext w w' ∧ w.heap.size ≤ g' ∧ Bk w' g' hs ∧ 1 ≤ c' := by
 obtain ⟨i, hi, hq⟩ := Option.map_eq_some_iff.1 (show (Tryz.prog.info? 98).map (fun i => (i.zero, i.size, decide (i.bytes ≤ 100000))) = some (some (.agg (z31 ++ [Value.slice none 0 0]).toArray), 32, true) by kernel_rfl)
 simp only [Prod.mk.injEq, decide_eq_true_eq] at hq
 obtain ⟨hz0, hz1, hz2⟩ := hq
 have ht : Tryz.prog.underlying 37 = some (.slice 98) := by kernel_rfl
 have hS : Src Tryz.prog i.size 37 (.slice (some ⟨g, 0, none⟩) 1 c) 1 hs w := Src.ofSlice w ht ⟨g, 0, none⟩ 1 c hs (by rw [hl, hz1]) (fun j u hj => by rw [show (⟨g, 0, none⟩ : Addr).add j = ⟨g, j, none⟩ from (Addr.add_mid g 0 j).trans (by rw [Nat.zero_add])]; exact B.c j u hj) (fun u hu => List.all_eq_true.1 h1 u hu)
 have hold : (Builtin.firstCells i.size 0 (.slice base 0 0)).run Tryz.prog w.drew = .ok #[] w.drew := by
  cases base with
  | none => exact run_firstCells_none w.drew i.size 0 0 0
  | some a => exact run_firstCells_some w.drew i.size 0 a 0 0 [] (by simp) (fun j u hj => by simp at hj)
 have hfit : Builtin.nextslicecap (0 + 1) 0 * i.bytes ≤ 281474976710656 := by
  have : Builtin.nextslicecap (0 + 1) 0 ≤ 1000 := by decide
  exact Nat.le_trans (Nat.mul_le_mul this hz2) (by decide)
 have := run_append_grow_src (P := Tryz.prog) w 37 37 ty 98 i _ ht hi hz0 base 0 0 [] hold _ 1 hs hS (by decide) (by decide) hfit
 refine ⟨_, _, _, this, (Ext.refl w).drew.alloc _, Nat.le_refl _, ?_, grownCap_ge w (0 + 1) 0 _⟩
 have hB := Bk.new w.drew (([] ++ hs).toArray ++ Builtin.zeroCells (Value.agg (z31 ++ [Value.slice none 0 0]).toArray).cells (grownCap w (0 + 1) 0 98 - (0 + 1))) 98
 rw [Array.toList_append] at hB
 exact hB.pre
section
variable {ops : Array Oper} {Q : Exit → Act → World → Prop} {ds : List (Option Tmp)} {a0 : Act} {w0 : World} {L : List (Value → World → Prop)} {boxes : List Nat} {i k : Nat} {o : Oper} {os : List Oper}
/-- An operation that may let the heap grow. -/
theorem okE {P : Program} (hb : boxes.contains i = false) (h : ∀ (v : Nat → Value) (a : Act) (w : World), Ext w0 w → (∀ j, (ups .any ops i).contains j = true → L.getD j (fun _ _ => True) (v j) w) → Fr ds a0 v a →
  ∃ x w', (execOp a.eval o).run P w = .ok (.value x) w' ∧ Ext w w' ∧ L.getD i (fun _ _ => True) x w') : Ok P ops Q ds a0 w0 L boxes i o :=
 ⟨fun v a w hE hd hf K hK => by
  obtain ⟨x, w', hr, he, hx⟩ := h v a w hE hd hf
  unfold Oper.wp
  rw [hr]
  exact hK.out x w' he hx (FreshIf.no hb)⟩
/-- An empty slice that is not nil. -/
def IsE0 (v : Value) (_ : World) : Prop := ∃ g : Nat, v = .slice (some ⟨g, 0, none⟩) 0 0
theorem IsE0.stb : Stb IsE0 := fun _ _ _ _ h => h
theorem bs0 (ho : o.op = .buildSlice 37 0 #[] := by rfl) (hi : L.getD i (fun _ _ => True) = IsE0 := by kernel_rfl) (hb : boxes.contains i = false := by kernel_rfl) : Ok Tryz.prog ops Q ds a0 w0 L boxes i o :=
 okE hb fun v a w hE hd hf => by
  refine ⟨.slice (some ⟨w.heap.size, 0, none⟩) 0 0, w.alloc (.cells #[] 98), ?_, (Ext.refl _).alloc _, by rw [hi]; exact ⟨_, rfl⟩⟩
  unfold execOp
  rw [ho]
  go_simp
theorem apH {hs : List Value} {x y : Operand} {g c : Nat} (B : Bk w0 g hs) (hl : hs.length = 32) (h1 : hs.all (fun u => u.oneCell') = true) (hn : ∀ u ∈ hs, NoWord u) (hx : Od ops ds a0 w0 L i x IsE0) (hy : Od ops ds a0 w0 L i y (IsV (.slice (some ⟨g, 0, none⟩) 1 c)))
  (ho : o.op = .call { callee := .builtin .append, args := #[x, y], argTypes := #[37, 37] } := by rfl) (hi : L.getD i (fun _ _ => True) = HsR (some hs) := by kernel_rfl) (hb : boxes.contains i = false := by kernel_rfl) : Ok Tryz.prog ops Q ds a0 w0 L boxes i o :=
 okE hb fun v a w hE hd hf => by
  obtain ⟨b, e1⟩ := hx.out v a w hE hd hf
  have e2 : a.eval y = _ := hy.out v a w hE hd hf
  obtain ⟨g', c', w', hr, he, -, B', -⟩ := apH_run (ty := o.type) (base := some ⟨b, 0, none⟩) (c := c) (B.ext hE) hl h1
  refine ⟨_, w', ?_, he, by rw [hi]; exact ⟨g', c', rfl, B', hl, h1, hn⟩⟩
  simp [execOp, ho, resolve, invoke, builtin, e1, e2, hr, Result.andThen]
end
theorem eqN (w : World) : (binOp .eql 37 (.slice none 0 0) (.slice none 0 0)).run Tryz.prog w = .ok (.bool true) w := by kernel_rfl
theorem eqS (w : World) (a : Addr) (n c : Nat) : (binOp .eql 37 (.slice (some a) n c) (.slice none 0 0)).run Tryz.prog w = .ok (.bool false) w := by kernel_rfl
set_option maxRecDepth 100000 in
set_option maxHeartbeats 4000000 in
theorem cloneH_f {w : World} {o : Option (List Value)} {v : Value} (hv : HsR o v w) : Calls Tryz.prog 216 #[v] w (Ret w (HsR o)) := by
 cases o with
 | none =>
  obtain rfl : v = .slice none 0 0 := hv
  have hq := eqN
  go_enter Tryz.func216, Tryz.ntmps216
  go_wp2
  go_ret
  exact ⟨_, rfl, Ext.refl _, rfl⟩
 | some hs =>
  obtain ⟨g, c, rfl, B, hl, h1, hn⟩ := hv
  have hq := fun w => eqS w ⟨g, 0, none⟩ 1 c
  go_enter Tryz.func216, Tryz.ntmps216
  go_upto_region 3 with (fail)
  refine rgs 4 [some 5, some 6, some 7, some 2] [IsE0, IsV (.slice (some ⟨g, 0, none⟩) 1 c), HsR (some hs), HsR (some hs)] [] ?_ ?_ (hst := by repeat' (first | exact trivial | exact IsV.stb _ | exact IsE0.stb | exact HsR.stb _ | apply And.intro))
  ·refine Rc bs0 ?_
   refine Rc (mv (Od.lit 0)) ?_
   refine Rc (apH (c := c) B hl h1 hn (Od.lc 0 5) (Od.lc 1 6)) ?_
   refine Rc (mv (Od.lc (Φ := HsR (some hs)) 2 7)) ?_
   exact RgAll.nil
  intro v X1 e1 hΦ _
  have h3 := hΦ 3 (by decide)
  simp only [layL, Act.put, uAx, u0x, u1x, Nat.reduceAdd]
  clear hΦ
  refine wpList_nil ?_
  go_wp2_with fail
  go_ret
  exact ⟨_, rfl, e1, h3⟩
end Go.Proofs.YtkeikfekkdplgaaGreatDoor
namespace Go.Proofs.YtkeikfekkdplgaaGreatDoor
open Go Go.RowKit Go.Maps Go.Shelf

attribute [local go_sem] Oper.semAt_some
theorem lvar_mid {T m : Nat} (hu : ((Tryz.prog.underlying T).any (·.isRow)) = true) (hi : (Tryz.prog.info? T).map (·.size) = some m) {w : World} {g : Nat} {vs : List Value} (hl : vs.length = m) (B : Bk w g vs) : (loadVar T ⟨g, 0, none⟩).run Tryz.prog w = .ok (.agg vs.toArray) w := by
 obtain ⟨d, h1, h2⟩ := row_of hu
 exact run_loadVar_mid w g 0 T vs d (fun j v hj => by rw [Nat.zero_add]; exact B.c j v hj) h1 h2 (by rw [hl]; exact hi)
theorem res_c {P : Program} {fn : Func} {a : Tmp} {t : TypeId} {tmps : Array Value} {w : World} {p : Addr} {v : Value} (h : fn.results = #[.cell a t]) (ha : tmps.getD a undef = .pointer (some p)) (hl : (loadVar t p).run P w = .ok v w) : (results fn tmps).run P w = .ok v w := by
 have ha' : tmps[a]?.getD undef = .pointer (some p) := by simpa using ha
 simp [results, h, ha', hl, asAddr]
theorem res_ct {P : Program} {fn : Func} {a b : Tmp} {t : TypeId} {tmps : Array Value} {w : World} {p : Addr} {v : Value} (h : fn.results = #[.cell a t, .tmp b]) (ha : tmps.getD a undef = .pointer (some p)) (hl : (loadVar t p).run P w = .ok v w) : (results fn tmps).run P w = .ok (.tuple #[v, tmps.getD b undef]) w := by
 have ha' : tmps[a]?.getD undef = .pointer (some p) := by simpa using ha
 simp [results, h, ha', hl, asAddr]
def z32 : List Value := z31 ++ [.slice none 0 0]
theorem nwH : ∀ v ∈ z32, NoWord v := fun v hv => (List.mem_append.1 hv).elim (nwE v) fun h => by
 obtain rfl : v = .slice none 0 0 := by simpa using h
 exact NoWord.slice _ _ _
theorem al_He (w : World) : (Instr.alloc 98 true (.tuple #[])).run Tryz.prog w = .ok (.pointer (some ⟨w.heap.size, 0, none⟩)) (w.alloc (.cells z32.toArray 98)) := by unfold z32 z31; go_simp
theorem lv_He {w : World} {g : Nat} {vs : List Value} (hl : vs.length = 32) (B : Bk w g vs) : (loadVar 98 ⟨g, 0, none⟩).run Tryz.prog w = .ok (.agg vs.toArray) w := lvar_mid (by kernel_rfl) (by kernel_rfl) hl B
theorem lv_En {w : World} {g : Nat} {vs : List Value} (hl : vs.length = 31) (B : Bk w g vs) : (loadVar 95 ⟨g, 0, none⟩).run Tryz.prog w = .ok (.agg vs.toArray) w := lvar_mid (by kernel_rfl) (by kernel_rfl) hl B
set_option maxRecDepth 100000 in
set_option maxHeartbeats 4000000 in
theorem find_f {w : World} {o : Option (List Value)} {v : Value} {x : ByteArray} (hv : HsR o v w) (hx : ∀ hs, o = some hs → hs[0]? = some (.string x)) : Calls Tryz.prog 182 #[.agg #[v], .string x] w (Ret w (HsR o)) := by
 have hmf : ∀ (fn : Fn) (first cap : Array Value) (w : World), (Instr.makeFunc fn first cap).run Tryz.prog w = .ok (.func fn first cap) w := fun _ _ _ _ => rfl
 obtain ⟨W, hW, E, c0, cx⟩ : ∃ W, W = (w.alloc (.cells #[v] 39)).alloc (.cells #[.string x] 9) ∧ Ext w W ∧ World.cell? W ⟨w.heap.size, 0, none⟩ = some v ∧ World.cell? W ⟨w.heap.size + 1, 0, none⟩ = some (.string x) :=
  ⟨_, rfl, ((Ext.refl w).alloc _).alloc _, ((Bk.new w _ _).ext ((Ext.refl _).alloc _)).c 0 _ rfl, (Bk.newE _ _ (by simp) _ _).c 0 _ rfl⟩
 replace hv := hv.ext E
 go_enter Tryz.func182, Tryz.ntmps182
 go_upto_region 1 with (fail)
 rw [← hW]
 clear hW
 go_wp2_with (first | (go_at_call 216; refine (cloneH_f hv).mono ?_; rintro e w1 ⟨v1, rfl, e1, hv1⟩) | (go_at_call 183; refine (delH_f (caps := [.pointer (some ⟨w.heap.size + 1, 0, none⟩)]) (en Tryz.func217) hv1 (fun hs h w' he => find1_f (hx hs h) (he.cell (e1.cell cx)))).mono ?_; rintro e w2 ⟨_, rfl, e2, rfl⟩))
 go_ret
 exact ⟨_, rfl, (E.trans e1).trans e2, hv1.ext e2⟩
set_option maxRecDepth 100000 in
set_option maxHeartbeats 4000000 in
theorem minH_f {w : World} {hs : List Value} {v f : Value} (hv : HsR (some hs) v w) : Calls Tryz.prog 188 #[v, f] w (Ret w (IsV (.agg hs.toArray))) := by
 obtain ⟨g, c, rfl, B, hl, h1, hn⟩ := hv
 obtain ⟨W, hW, E, B4⟩ : ∃ W, W = w.alloc (.cells #[.string ⟨#[]⟩, .slice none 0 0, .slice none 0 0, .bool false, .slice none 0 0, .slice none 0 0, .slice none 0 0, .int .i64 0, .bool false, .slice none 0 0, .slice none 0 0, .slice none 0 0, .int .i64 0, .int .i64 0, .int .i64 0, .int .i64 0, .slice none 0 0, .slice none 0 0, .slice none 0 0, .slice none 0 0, .bool false, .slice none 0 0, .bool false, .slice none 0 0, .slice none 0 0, .slice none 0 0, .slice none 0 0, .slice none 0 0, .slice none 0 0, .slice none 0 0, .slice none 0 0, .slice none 0 0] 98) ∧ Ext w W ∧ Bk W w.heap.size z32 := ⟨_, rfl, (Ext.refl w).alloc _, Bk.new w _ _⟩
 replace B := B.ext E
 go_enter Tryz.func188, Tryz.ntmps188
 go_upto_region 3 with (fail)
 rw [← hW]
 clear hW
 refine rgs 4 [some 11, some 12, some 13, some 5] [IsV (.slice (some ⟨g, 0, none⟩) 1 c), IsV (.pointer (some ⟨g, 0, none⟩)), IsV (.agg hs.toArray), IsNb W.heap.size z32] [] ?_ ?_ (hst := by repeat' (first | exact trivial | exact IsV.stb _ | exact IsNb.stb _ _ | apply And.intro))
 ·refine Rc (mv (Od.lit 0)) ?_
  refine Rc (ixq (ix_He g c) (Od.lc 0 11) Od.con) ?_
  refine Rc (lvV B ld_He (Od.lc 1 12) hl) ?_
  refine Rc (alB al_He (Nat.le_refl _)) ?_
  exact RgAll.nil
 intro v X1 e1 hΦ _
 obtain ⟨g5, hv5, hg5, B5⟩ := hΦ 3 (by decide)
 replace E := E.trans e1
 have h4 : w.heap.size < W.heap.size := B4.lt
 replace B4 := B4.ext e1
 simp only [layL, Act.put, uAx, u0x, u1x, Nat.reduceAdd]
 rw [hv5, show v 2 = .agg hs.toArray from hΦ 2 (by decide)]
 clear hΦ hv5
 refine stL (fun K hK => ?_)
 refine stVO (us := hs) B5 st_He rfl hl nwH (fun X2 B5' O => hK _ _ ?_) (ho1 := h1)
 replace B4 := (Ob.only O).bk B4 (by omega)
 replace E := (Ob.only O).ext E (by omega)
 clear hK O B5 e1 K
 refine wpList_nil ?_
 go_wp2_with fail
 refine wp_loop_rounds 1 ?_
 rw [rounds_succ]
 go_upto_region 9 with (fail)
 refine rgs 1 [some 32] [IsV (.agg hs.toArray)] [] ?_ ?_ (hst := by repeat' (first | exact trivial | exact IsV.stb _ | apply And.intro))
 ·refine Rc (lvV B5' ld_He (Od.lit 5) hl) ?_
  exact RgAll.nil
 intro v X3 e1 hΦ _
 replace E := E.trans e1
 replace B4 := B4.ext e1
 simp only [layL, Act.put, uAx, u0x, u1x, Nat.reduceAdd]
 rw [show v 0 = .agg hs.toArray from hΦ 0 (by decide)]
 clear hΦ e1
 refine stL (fun K hK => ?_)
 refine stVO (us := hs) B4 st_He rfl hl nwH (fun X4 B4' O => hK _ _ ?_) (ho1 := h1)
 replace E := (Ob.only O).ext E (Nat.le_refl _)
 clear hK O B4 K
 refine wpList_nil ?_
 go_wp2_with fail
 exact bodyPost_ret (v := .agg hs.toArray) (res_c Tryz.results188 rfl (lv_He hl B4')) rfl ⟨_, rfl, E, rfl⟩
/-! ### Best -/
theorem fld_He {w : World} {hs : List Value} (hl : hs.length = 32) : (Instr.field 98 (.agg hs.toArray) 0).run Tryz.prog w = .ok (.agg (hs.take 31).toArray) w := by
 have h : (hs.toArray.extract 0 31) = (hs.take 31).toArray := by apply Array.ext'; simp
 unfold Instr.field
 go_simp
 simp [asAgg, h]
section
variable {ops : Array Oper} {Q : Exit → Act → World → Prop} {ds : List (Option Tmp)} {a0 : Act} {w0 : World} {L : List (Value → World → Prop)} {boxes : List Nat} {i k : Nat} {o : Oper} {os : List Oper}
/-- The value of an operation is known. -/
theorem okV {P : Program} {u : Value} (hb : boxes.contains i = false) (hi : L.getD i (fun _ _ => True) = IsV u) (h : ∀ (v : Nat → Value) (a : Act) (w : World), Ext w0 w → (∀ j, (ups .any ops i).contains j = true → L.getD j (fun _ _ => True) (v j) w) → Fr ds a0 v a → (execOp a.eval o).run P w = .ok (.value u) w) : Ok P ops Q ds a0 w0 L boxes i o :=
 Ok.of hb fun v a w hE hd hf => ⟨u, h v a w hE hd hf, by rw [hi]; rfl⟩
theorem fldH {hs : List Value} {x : Operand} (hl : hs.length = 32) (hx : Od ops ds a0 w0 L i x (IsV (.agg hs.toArray))) (ho : o.op = .field 98 x 0 := by rfl) (hi : L.getD i (fun _ _ => True) = IsV (.agg (hs.take 31).toArray) := by kernel_rfl) (hb : boxes.contains i = false := by kernel_rfl) : Ok Tryz.prog ops Q ds a0 w0 L boxes i o :=
 okV hb hi fun v a w hE hd hf => by
  have h1 : a.eval x = _ := hx.out v a w hE hd hf
  unfold execOp
  rw [ho]
  dsimp only
  rw [h1]
  simp [fld_He hl]
theorem bdE (ho : o.op = .build 95 #[] := by rfl) (hi : L.getD i (fun _ _ => True) = IsV (.agg z31.toArray) := by kernel_rfl) (hb : boxes.contains i = false := by kernel_rfl) : Ok Tryz.prog ops Q ds a0 w0 L boxes i o :=
 okV hb hi fun v a w hE hd hf => by
  have hr : (Instr.build 95 #[]).run Tryz.prog w = .ok (.agg z31.toArray) w := by unfold z31; go_simp
  unfold execOp
  rw [ho]
  simp [hr]
end
/-- What Best is told of a Held that serves. -/
def Fit (H : Nat) (x : ByteArray) (vv : Int) (gr : Value) (hs : List Value) (w : World) : Prop := hs[0]? = some (.string x) ∧ ∃ gv gh gg cg s a n c, gr = .slice (some ⟨gg, 0, none⟩) 2 cg ∧ World.cell? w ⟨gg, 0, none⟩ = some (.int .i64 1) ∧ World.cell? w ⟨gg, 1, none⟩ = some (.int .i64 2) ∧
 gv < H ∧ gh < H ∧ hs[1]? = some (.slice (some ⟨gv, 0, none⟩) 1 1) ∧ World.cell? w ⟨gv, 0, none⟩ = some (.bool s) ∧ World.cell? w ⟨gv, 1, none⟩ = some (.slice a n c) ∧ IsI 128 vv (.agg #[.bool s, .slice a n c]) w ∧ hs[30]? = some (.slice (some ⟨gh, 0, none⟩) 1 1) ∧ World.cell? w ⟨gh, 0, none⟩ = some (.int .i64 2)
theorem Fit.ext {H : Nat} {x : ByteArray} {vv : Int} {gr : Value} {hs : List Value} {w w' : World} (h : Fit H x vv gr hs w) (e : Ext w w') : Fit H x vv gr hs w' := by
 obtain ⟨h1, gv, gh, gg, cg, s, a, n, c, h2, h3, h4, h5, h6, h7, h8, h9, h10, h11, h12⟩ := h
 exact ⟨h1, gv, gh, gg, cg, s, a, n, c, h2, e.cell h3, e.cell h4, h5, h6, h7, e.cell h8, e.cell h9, h10.ext e, h11, e.cell h12⟩
set_option maxRecDepth 100000 in
set_option maxHeartbeats 8000000 in
theorem best_f {w : World} {o : Option (List Value)} {v : Value} {x : ByteArray} {ga : Option Addr} {gn gc H : Nat} {vv : Int} (hH : H ≤ w.heap.size) (hv : HsR o v w) (HF : ∀ hs, o = some hs → Fit H x vv (.slice ga gn gc) hs w) :
  Calls Tryz.prog 137 #[.agg #[v], .string x, .slice ga gn gc] w (Ret w (IsT2 (IsBest H o.isSome vv 2) (IsV (.bool o.isSome)))) := by
 have hmf : ∀ (fn : Fn) (first cap : Array Value) (w : World), (Instr.makeFunc fn first cap).run Tryz.prog w = .ok (.func fn first cap) w := fun _ _ _ _ => rfl
 obtain ⟨W, hW, E, c3, c5, B6⟩ : ∃ W, W = ((w.alloc (.cells #[v] 39)).alloc (.cells #[.slice ga gn gc] 41)).alloc (.cells #[.string ⟨#[]⟩, .slice none 0 0, .slice none 0 0, .bool false, .slice none 0 0, .slice none 0 0, .slice none 0 0, .int .i64 0, .bool false, .slice none 0 0, .slice none 0 0, .slice none 0 0, .int .i64 0, .int .i64 0, .int .i64 0, .int .i64 0, .slice none 0 0, .slice none 0 0, .slice none 0 0, .slice none 0 0, .bool false, .slice none 0 0, .bool false, .slice none 0 0, .slice none 0 0, .slice none 0 0, .slice none 0 0, .slice none 0 0, .slice none 0 0, .slice none 0 0, .slice none 0 0] 95) ∧ Ext w W ∧ World.cell? W ⟨w.heap.size, 0, none⟩ = some v ∧ World.cell? W ⟨w.heap.size + 1, 0, none⟩ = some (.slice ga gn gc) ∧ Bk W (w.heap.size + 2) z31 :=
  ⟨_, rfl, (((Ext.refl w).alloc _).alloc _).alloc _, ((Bk.new w _ _).ext (((Ext.refl _).alloc _).alloc _)).c 0 _ rfl, ((Bk.newE _ _ (by simp) _ _).ext ((Ext.refl _).alloc _)).c 0 _ rfl, Bk.newE _ _ (by simp) _ _⟩
 have h6 := B6.lt
 replace hv := hv.ext E
 replace HF := fun hs h => (HF hs h).ext E
 go_enter Tryz.func137, Tryz.ntmps137
 go_upto_region 1 with (fail)
 rw [← hW]
 clear hW
 have HD : ∀ w1 v1, Ext W w1 → HsR o v1 w1 → Calls Tryz.prog 183 #[v1, .func (.func 184) #[] #[.pointer (some ⟨w.heap.size + 1, 0, none⟩)]] w1 (Ret w1 (IsV v1)) := fun w1 v1 e1 hv1 => delH_f (caps := [.pointer (some ⟨w.heap.size + 1, 0, none⟩)]) (en Tryz.func184) hv1 (fun hs h w' he => by
  obtain ⟨-, gv, gh, gg, cg, s, a, n, c, r2, r3, r4, r5, r6, r7, r8, r9, r10, r11, r12⟩ := (HF hs h).ext (e1.trans he)
  exact best1_f r11 r12 (by rw [← r2]; exact he.cell (e1.cell c5)) r3 r4)
 go_upto_region 3 with (first | (go_at_call 182; refine (find_f hv (fun hs h => (HF hs h).1)).mono ?_; rintro e w1 ⟨v1, rfl, e1, hv1⟩) | (go_at_call 183; refine (HD _ _ e1 hv1).mono ?_; rintro e w2 ⟨v2, rfl, e2, rfl⟩))
 replace hv1 := hv1.ext e2
 have e9 := e1.trans e2
 replace E := E.trans e9
 replace B6 := B6.ext e9
 replace HF := fun hs h => (HF hs h).ext e9
 have h7 := Nat.lt_of_lt_of_le h6 e9.size
 clear HD e9 e1 e2 hv c3 c5 hmf h6
 cases o with
 | none =>
  obtain rfl : v2 = .slice none 0 0 := hv1
  go_upto_region 4 with (fail)
  refine rgs 1 [some 18] [IsV (.agg z31.toArray)] [] ?_ ?_ (hst := by repeat' (first | exact trivial | exact IsV.stb _ | apply And.intro))
  ·refine Rc bdE ?_
   exact RgAll.nil
  intro v X3 e1 hΦ _
  replace E := E.trans e1
  replace B6 := B6.ext e1
  simp only [layL, Act.put, uAx, u0x, u1x, Nat.reduceAdd]
  rw [show v 0 = .agg z31.toArray from hΦ 0 (by decide)]
  clear hΦ e1
  refine stL (fun K hK => ?_)
  refine stVO (us := z31) B6 st_En rfl rfl nwE (fun X4 B6' O => hK _ _ ?_)
  replace E := (Ob.only O).ext E (by omega)
  clear hK O B6 K
  refine stL (fun K hK => ?_)
  refine wp_mvA (u := .bool false) (by kernel_rfl) (hK _ _ ?_)
  clear hK K
  refine wpList_nil ?_
  try simp only [Act.put, uAx, u0x, u1x, Nat.reduceAdd]
  go_wp2_with fail
  exact bodyPost_ret (res_ct Tryz.results137 rfl (lv_En rfl B6')) rfl ⟨_, rfl, E, _, _, rfl, ⟨z31, rfl, rfl, rfl, nwE, fun h => by cases h⟩, rfl⟩
 | some hs =>
  obtain ⟨g, c, rfl, B, hl, h1, hn⟩ := hv1
  go_upto_region 5 with (fail)
  refine rgs 3 [some 19, some 20, some 21] [IsV (.slice (some ⟨g, 0, none⟩) 1 c), IsV (.agg hs.toArray), IsV (.agg (hs.take 31).toArray)] [] ?_ ?_ (hst := by repeat' (first | exact trivial | exact IsV.stb _ | apply And.intro))
  ·refine Rc (mv (Od.lit 8)) ?_
   refine Rc (cl2 (en Tryz.func188) (Od.lc (Φ := IsV (.slice (some ⟨g, 0, none⟩) 1 c)) 0 19) (Ψ := fun _ _ => True) ⟨fun _ _ _ _ _ _ => trivial⟩ (fun x0 x1 w' hE d0 d1 => by { obtain rfl : x0 = _ := d0; exact minH_f ⟨g, c, rfl, B.ext hE, hl, h1, hn⟩ })) ?_
   refine Rc (fldH hl (Od.lc 1 20)) ?_
   exact RgAll.nil
  intro v X3 e1 hΦ _
  replace E := E.trans e1
  replace B6 := B6.ext e1
  replace HF := (HF hs rfl).ext e1
  simp only [layL, Act.put, uAx, u0x, u1x, Nat.reduceAdd]
  rw [show v 2 = .agg (hs.take 31).toArray from hΦ 2 (by decide)]
  clear hΦ e1
  have hl' : (hs.take 31).length = 31 := by simp [hl]
  refine stL (fun K hK => ?_)
  refine stVO (us := hs.take 31) B6 st_En rfl hl' nwE (fun X4 B6' O => hK _ _ ?_) (ho1 := by simp only [List.all_eq_true] at h1 ⊢; exact fun u hu => h1 u (List.mem_of_mem_take hu))
  replace E := (Ob.only O).ext E (by omega)
  obtain ⟨-, gv, gh, gg, cg, s, a, n, c', r2, r3, r4, r5, r6, r7, r8, r9, r10, r11, r12⟩ := HF
  have k8 : World.cell? X4 ⟨gv, 0, none⟩ = some (.bool s) := (World.cell?_of_block (w := X3) (a := ⟨gv, 0, none⟩) (O.block gv (by omega))).trans r8
  have k9 : World.cell? X4 ⟨gv, 1, none⟩ = some (.slice a n c') := (World.cell?_of_block (w := X3) (a := ⟨gv, 1, none⟩) (O.block gv (by omega))).trans r9
  have k12 : World.cell? X4 ⟨gh, 0, none⟩ = some (.int .i64 2) := (World.cell?_of_block (w := X3) (a := ⟨gh, 0, none⟩) (O.block gh (by omega))).trans r12
  have k10 := IsI.gstb _ _ _ _ _ O.gr r10
  clear hK O B6 K
  refine stL (fun K hK => ?_)
  refine wp_mvA (u := .bool true) (by kernel_rfl) (hK _ _ ?_)
  clear hK K
  refine wpList_nil ?_
  try simp only [Act.put, uAx, u0x, u1x, Nat.reduceAdd]
  go_wp2_with fail
  exact bodyPost_ret (res_ct Tryz.results137 rfl (lv_En hl' B6')) rfl ⟨_, rfl, E, _, _, rfl, ⟨hs.take 31, rfl, hl', by simp only [List.all_eq_true] at h1 ⊢; exact fun u hu => h1 u (List.mem_of_mem_take hu), fun u hu => hn u (List.mem_of_mem_take hu), fun _ => ⟨gv, gh, s, a, n, c', r5, r6, by rw [List.getElem?_take_of_lt (by decide)]; exact r7, k8, k9, k10, by rw [List.getElem?_take_of_lt (by decide)]; exact r11, k12⟩⟩, rfl⟩
end Go.Proofs.YtkeikfekkdplgaaGreatDoor
