/-
  The examples of the law: the entry; ref36.Add at an empty shelf.
-/
import Derived.Test.YtkeikfekkdplgaaGreatDoorEv24
namespace Go.Proofs.YtkeikfekkdplgaaGreatDoor
open Go Go.RowKit Go.Maps Go.Shelf

attribute [local go_sem] Oper.semAt_some
/-- An entry of one value and one hypothesis. -/
def esE (x : ByteArray) (gv gh : Nat) : List Value := [.string x, .slice (some ⟨gv, 0, none⟩) 1 1, .slice none 0 0, .bool false, .slice none 0 0, .slice none 0 0, .slice none 0 0, .int .i64 0, .bool false, .slice none 0 0, .slice none 0 0, .slice none 0 0, .int .i64 0, .int .i64 0, .int .i64 0, .int .i64 0, .slice none 0 0, .slice none 0 0, .slice none 0 0, .slice none 0 0, .bool false, .slice none 0 0, .bool false, .slice none 0 0, .slice none 0 0, .slice none 0 0, .slice none 0 0, .slice none 0 0, .slice none 0 0, .slice none 0 0, .slice (some ⟨gh, 0, none⟩) 1 1]
theorem nwEs (x : ByteArray) (gv gh : Nat) : ∀ v ∈ esE x gv gh, NoWord v := by
  intro v hv
  have : (esE x gv gh).all (fun v => match v with | .string _ => true | .slice _ _ _ => true | .int .i64 _ => true | .bool _ => true | _ => false) = true := rfl
  have h := List.all_eq_true.1 this v hv
  cases v with
  | string s => exact NoWord.string _
  | slice a n c => exact NoWord.slice _ _ _
  | bool b => exact NoWord.bool _
  | int q z => cases q <;> first | exact NoWord.int64 _ | simp at h
  | _ => simp at h
def hsE (x : ByteArray) (gv gh gs : Nat) : List Value := esE x gv gh ++ [Value.slice (some ⟨gs, 0, none⟩) 1 1]
theorem nwHs (x : ByteArray) (gv gh gs : Nat) : ∀ v ∈ hsE x gv gh gs, NoWord v := fun v hv => (List.mem_append.1 hv).elim (nwEs x gv gh v) fun h => by
  obtain rfl : v = Value.slice (some ⟨gs, 0, none⟩) 1 1 := by simpa using h
  exact NoWord.slice _ _ _
theorem bd_En1 (x : ByteArray) (gv gh : Nat) (w : World) : (Instr.build 95 #[(0, .string x), (1, .slice (some ⟨gv, 0, none⟩) 1 1), (3, .slice (some ⟨gh, 0, none⟩) 1 1)]).run Tryz.prog w = .ok (.agg (esE x gv gh).toArray) w := by unfold esE; go_simp
theorem bd_He1 (x : ByteArray) (gv gh : Nat) (gs : Nat) (w : World) : (Instr.build 98 #[(0, .agg (esE x gv gh).toArray), (1, .slice (some ⟨gs, 0, none⟩) 1 1)]).run Tryz.prog w = .ok (.agg (hsE x gv gh gs).toArray) w := by unfold hsE esE; go_simp
theorem bs_He1 (x : ByteArray) (gv gh : Nat) (gs : Nat) (w : World) : (Instr.buildSlice 37 1 #[(0, .agg (hsE x gv gh gs).toArray)]).run Tryz.prog w = .ok (.slice (some ⟨w.heap.size, 0, none⟩) 1 1) (w.alloc (.cells (hsE x gv gh gs).toArray 98)) := by unfold hsE esE; go_simp
theorem bs_So1 (w : World) : (Instr.buildSlice 96 1 #[(0, .agg #[.int .i64 0, .int .i64 0, .int .i64 0])]).run Tryz.prog w = .ok (.slice (some ⟨w.heap.size, 0, none⟩) 1 1) (w.alloc (.cells #[.int .i64 0, .int .i64 0, .int .i64 0] 102)) := by go_simp
section
variable {ops : Array Oper} {Q : Exit → Act → World → Prop} {ds : List (Option Tmp)} {a0 : Act} {w0 : World} {L : List (Value → World → Prop)} {boxes : List Nat} {i k : Nat} {o : Oper} {os : List Oper}
def IsSo (v : Value) (_ : World) : Prop := ∃ gs, v = .slice (some ⟨gs, 0, none⟩) 1 1
theorem IsSo.stb : Stb IsSo := fun _ _ _ _ h => h
def IsHd (x : ByteArray) (gv gh : Nat) (v : Value) (_ : World) : Prop := ∃ gs, v = .agg (hsE x gv gh gs).toArray
theorem IsHd.stb (x : ByteArray) (gv gh : Nat) : Stb (IsHd x gv gh) := fun _ _ _ _ h => h
/-- A row of one such Held. -/
def IsHr (x : ByteArray) (gv gh : Nat) (v : Value) (w : World) : Prop := ∃ gs g c, v = .slice (some ⟨g, 0, none⟩) 1 c ∧ 1 ≤ c ∧ Bk w g (hsE x gv gh gs)
theorem IsHr.stb (x : ByteArray) (gv gh : Nat) : Stb (IsHr x gv gh) := fun _ _ _ e ⟨gs, g, c, h1, h2, h3⟩ => ⟨gs, g, c, h1, h2, h3.ext e⟩
theorem bsSo {x : Operand} (hx : Od ops ds a0 w0 L i x (IsV (.agg #[.int .i64 0, .int .i64 0, .int .i64 0]))) (ho : o.op = .buildSlice 96 1 #[(0, x)] := by rfl) (hi : L.getD i (fun _ _ => True) = IsSo := by kernel_rfl) (hb : boxes.contains i = false := by kernel_rfl) : Ok Tryz.prog ops Q ds a0 w0 L boxes i o :=
  okE hb fun v a w hE hd hf => by
    have h1 : a.eval x = _ := hx.out v a w hE hd hf
    refine ⟨_, w.alloc (.cells #[.int .i64 0, .int .i64 0, .int .i64 0] 102), ?_, (Ext.refl w).alloc _, by rw [hi]; exact ⟨w.heap.size, rfl⟩⟩
    unfold execOp
    rw [ho]
    dsimp only
    simp only [List.map_toArray, List.map_cons, List.map_nil]
    rw [h1]
    simp [bs_So1]
theorem bdHd {nm : ByteArray} {gv gh : Nat} {x y : Operand} (hx : Od ops ds a0 w0 L i x (IsV (.agg (esE nm gv gh).toArray))) (hy : Od ops ds a0 w0 L i y IsSo) (ho : o.op = .build 98 #[(0, x), (1, y)] := by rfl) (hi : L.getD i (fun _ _ => True) = IsHd nm gv gh := by kernel_rfl) (hb : boxes.contains i = false := by kernel_rfl) : Ok Tryz.prog ops Q ds a0 w0 L boxes i o :=
  Ok.of hb fun v a w hE hd hf => by
    have h1 : a.eval x = _ := hx.out v a w hE hd hf
    obtain ⟨gs, h2⟩ := hy.out v a w hE hd hf
    refine ⟨_, ?_, by rw [hi]; exact ⟨gs, rfl⟩⟩
    unfold execOp
    rw [ho]
    dsimp only
    simp only [List.map_toArray, List.map_cons, List.map_nil]
    rw [h1, h2]
    simp [bd_He1]
theorem bsHd {nm : ByteArray} {gv gh : Nat} {x : Operand} (hx : Od ops ds a0 w0 L i x (IsHd nm gv gh)) (ho : o.op = .buildSlice 37 1 #[(0, x)] := by rfl) (hi : L.getD i (fun _ _ => True) = IsHr nm gv gh := by kernel_rfl) (hb : boxes.contains i = false := by kernel_rfl) : Ok Tryz.prog ops Q ds a0 w0 L boxes i o :=
  okE hb fun v a w hE hd hf => by
    obtain ⟨gs, h1⟩ := hx.out v a w hE hd hf
    refine ⟨_, w.alloc (.cells (hsE nm gv gh gs).toArray 98), ?_, (Ext.refl w).alloc _, by rw [hi]; exact ⟨gs, w.heap.size, 1, rfl, Nat.le_refl _, Bk.new w _ _⟩⟩
    unfold execOp
    rw [ho]
    dsimp only
    simp only [List.map_toArray, List.map_cons, List.map_nil]
    rw [h1]
    simp [bs_He1]
theorem apHr {nm : ByteArray} {gv gh : Nat} {x y : Operand} (hx : Od ops ds a0 w0 L i x IsE0) (hy : Od ops ds a0 w0 L i y (IsHr nm gv gh)) (ho : o.op = .call { callee := .builtin .append, args := #[x, y], argTypes := #[37, 37] } := by rfl) (hi : L.getD i (fun _ _ => True) = IsHr nm gv gh := by kernel_rfl) (hb : boxes.contains i = false := by kernel_rfl) : Ok Tryz.prog ops Q ds a0 w0 L boxes i o :=
  okE hb fun v a w hE hd hf => by
    obtain ⟨b, e1⟩ := hx.out v a w hE hd hf
    obtain ⟨gs, g, c, e2, hc, B⟩ := hy.out v a w hE hd hf
    obtain ⟨g', c', w', hr, he, -, B', hc'⟩ := apH_run (ty := o.type) (base := some ⟨b, 0, none⟩) (c := c) B rfl rfl
    refine ⟨_, w', ?_, he, by rw [hi]; exact ⟨gs, g', c', rfl, hc', B'⟩⟩
    simp [execOp, ho, resolve, invoke, builtin, e1, e2, hr, Result.andThen]
/-- Nothing is appended. -/
theorem ap0_run {w : World} {ty : TypeId} {g n c : Nat} (h : n ≤ c) : (Builtin.append_ #[37, 37] ty #[.slice (some ⟨g, 0, none⟩) n c, .slice none 0 0]).run Tryz.prog w = .ok (.slice (some ⟨g, 0, none⟩) n c) w := by
  obtain ⟨i, hi, hq⟩ := Option.map_eq_some_iff.1 (show (Tryz.prog.info? 98).map (fun i => i.size) = some 32 by kernel_rfl)
  have ht : Tryz.prog.underlying 37 = some (.slice 98) := by kernel_rfl
  exact run_append_room_src (P := Tryz.prog) w 37 37 ty 98 i ht hi g 0 n c (.slice none 0 0) 0 [] (Src.ofNil w ht 0) (by omega) (fun j hj => by simp at hj) (fun j hj => by simp at hj)
theorem ap0E {x y : Operand} (hx : Od ops ds a0 w0 L i x IsE0) (hy : Od ops ds a0 w0 L i y (IsV (.slice none 0 0))) (ho : o.op = .call { callee := .builtin .append, args := #[x, y], argTypes := #[37, 37] } := by rfl) (hi : L.getD i (fun _ _ => True) = IsE0 := by kernel_rfl) (hb : boxes.contains i = false := by kernel_rfl) : Ok Tryz.prog ops Q ds a0 w0 L boxes i o :=
  Ok.of hb fun v a w hE hd hf => by
    obtain ⟨b, e1⟩ := hx.out v a w hE hd hf
    have e2 : a.eval y = _ := hy.out v a w hE hd hf
    have hr := ap0_run (w := w) (ty := o.type) (g := b) (n := 0) (c := 0) (by decide)
    refine ⟨_, ?_, by rw [hi]; exact ⟨b, rfl⟩⟩
    simp [execOp, ho, resolve, invoke, builtin, e1, e2, hr, Result.andThen]
theorem ap0H {nm : ByteArray} {gv gh : Nat} {x y : Operand} (hx : Od ops ds a0 w0 L i x (IsHr nm gv gh)) (hy : Od ops ds a0 w0 L i y (IsV (.slice none 0 0))) (ho : o.op = .call { callee := .builtin .append, args := #[x, y], argTypes := #[37, 37] } := by rfl) (hi : L.getD i (fun _ _ => True) = IsHr nm gv gh := by kernel_rfl) (hb : boxes.contains i = false := by kernel_rfl) : Ok Tryz.prog ops Q ds a0 w0 L boxes i o :=
  Ok.of hb fun v a w hE hd hf => by
    obtain ⟨gs, g, c, e1, hc, H⟩ := hx.out v a w hE hd hf
    have e2 : a.eval y = _ := hy.out v a w hE hd hf
    have hr := ap0_run (w := w) (ty := o.type) (g := g) (n := 1) (c := c) hc
    refine ⟨_, ?_, by rw [hi]; exact ⟨gs, g, c, rfl, hc, H⟩⟩
    simp [execOp, ho, resolve, invoke, builtin, e1, e2, hr, Result.andThen]
theorem lnS {x : Operand} {p : Option Addr} {n c : Nat} {T : TypeId} (hx : Od ops ds a0 w0 L i x (IsV (.slice p n c))) (ho : o.op = .call { callee := .builtin .len, args := #[x], argTypes := #[T] } := by rfl) (hT : Tryz.prog.underlying T = some (.slice (Tryz.prog.elem T)) := by kernel_rfl) (hi : L.getD i (fun _ _ => True) = IsV (.int .i64 n) := by kernel_rfl) (hb : boxes.contains i = false := by kernel_rfl) : Ok Tryz.prog ops Q ds a0 w0 L boxes i o :=
  okV hb hi fun v a w hE hd hf => by
    have e1 : a.eval x = _ := hx.out v a w hE hd hf
    have h9 := run_len_slice (P := Tryz.prog) w T o.type p n c hT
    simp [execOp, ho, resolve, invoke, builtin, e1, h9, goInt]
theorem slT {x y : Operand} (hx : Od ops ds a0 w0 L i x (IsV (.slice none 0 0))) (hy : Od ops ds a0 w0 L i y (IsV (.int .i64 0))) (ho : o.op = .slice 37 x none (some y) none := by rfl) (hi : L.getD i (fun _ _ => True) = IsV (.slice none 0 0) := by kernel_rfl) (hb : boxes.contains i = false := by kernel_rfl) : Ok Tryz.prog ops Q ds a0 w0 L boxes i o :=
  okV hb hi fun v a w hE hd hf => by
    have e1 : a.eval x = _ := hx.out v a w hE hd hf
    have e2 : a.eval y = _ := hy.out v a w hE hd hf
    unfold execOp
    rw [ho]
    dsimp only [Option.map]
    rw [e1, e2]
    go_simp
theorem slF {x y : Operand} (hx : Od ops ds a0 w0 L i x (IsV (.slice none 0 0))) (hy : Od ops ds a0 w0 L i y (IsV (.int .i64 0))) (ho : o.op = .slice 37 x (some y) none none := by rfl) (hi : L.getD i (fun _ _ => True) = IsV (.slice none 0 0) := by kernel_rfl) (hb : boxes.contains i = false := by kernel_rfl) : Ok Tryz.prog ops Q ds a0 w0 L boxes i o :=
  okV hb hi fun v a w hE hd hf => by
    have e1 : a.eval x = _ := hx.out v a w hE hd hf
    have e2 : a.eval y = _ := hy.out v a w hE hd hf
    unfold execOp
    rw [ho]
    dsimp only [Option.map]
    rw [e1, e2]
    go_simp
end
def IsShf (x : ByteArray) (gv gh : Nat) (v : Value) (w : World) : Prop := ∃ u, v = .agg #[u] ∧ IsHr x gv gh u w
theorem IsShf.stb (x : ByteArray) (gv gh : Nat) : Stb (IsShf x gv gh) := fun _ _ _ e ⟨u, h1, h2⟩ => ⟨u, h1, IsHr.stb _ _ _ _ _ _ e h2⟩
theorem fa_Sh0 (g : Nat) (w : World) : (Instr.fieldAt 39 (.pointer (some ⟨g, 0, none⟩)) 0).run Tryz.prog w = .ok (.pointer (some ⟨g, 0, none⟩)) w := by go_simp
theorem ld_aH : LdC1 Tryz.prog 37 := fun w a v h => by go_simp
theorem ld_So : LdV Tryz.prog 102 3 := ld_mid (by kernel_rfl) (by kernel_rfl)
theorem st_Sh : StV Tryz.prog 39 1 := st_mid (by kernel_rfl)
theorem lv_Sh {w : World} {g : Nat} {vs : List Value} (hl : vs.length = 1) (B : Bk w g vs) : (loadVar 39 ⟨g, 0, none⟩).run Tryz.prog w = .ok (.agg vs.toArray) w := lvar_mid (by kernel_rfl) (by kernel_rfl) hl B
theorem bd_Sh1 (a : Option Addr) (n c : Nat) (w : World) : (Instr.build 39 #[(0, .slice a n c)]).run Tryz.prog w = .ok (.agg #[.slice a n c]) w := by go_simp
section
variable {ops : Array Oper} {Q : Exit → Act → World → Prop} {ds : List (Option Tmp)} {a0 : Act} {w0 : World} {L : List (Value → World → Prop)} {boxes : List Nat} {i k : Nat} {o : Oper} {os : List Oper}
theorem bdShf {nm : ByteArray} {gv gh : Nat} {x : Operand} (hx : Od ops ds a0 w0 L i x (IsHr nm gv gh)) (ho : o.op = .build 39 #[(0, x)] := by rfl) (hi : L.getD i (fun _ _ => True) = IsShf nm gv gh := by kernel_rfl) (hb : boxes.contains i = false := by kernel_rfl) : Ok Tryz.prog ops Q ds a0 w0 L boxes i o :=
  Ok.of hb fun v a w hE hd hf => by
    obtain ⟨gs, g, c, h1, h2⟩ := hx.out v a w hE hd hf
    refine ⟨_, ?_, by rw [hi]; exact ⟨_, rfl, gs, g, c, rfl, h2⟩⟩
    unfold execOp
    rw [ho]
    dsimp only
    simp only [List.map_toArray, List.map_cons, List.map_nil]
    rw [h1]
    simp [bd_Sh1]
end
set_option maxRecDepth 100000 in
set_option maxHeartbeats 8000000 in
theorem add_f {w : World} {nm : ByteArray} {gv gh : Nat} : Calls Tryz.prog 25 #[.agg #[.slice none 0 0], .agg (esE nm gv gh).toArray, .agg #[.int .i64 0, .int .i64 0, .int .i64 0]] w (Ret w (IsShf nm gv gh)) := by
  obtain ⟨W, hW, E, B3, B4, B5, B6⟩ : ∃ W, W = (((w.alloc (.cells #[.slice none 0 0] 39)).alloc (.cells (esE nm gv gh).toArray 95)).alloc (.cells #[.int .i64 0, .int .i64 0, .int .i64 0] 102)).alloc (.cells #[.slice none 0 0] 39) ∧ Ext w W ∧ Bk W w.heap.size [.slice none 0 0] ∧ Bk W (w.heap.size + 1) (esE nm gv gh) ∧ Bk W (w.heap.size + 2) [.int .i64 0, .int .i64 0, .int .i64 0] ∧ Bk W (w.heap.size + 3) [.slice none 0 0] :=
    ⟨_, rfl, ((((Ext.refl w).alloc _).alloc _).alloc _).alloc _, (Bk.new w _ _).ext ((((Ext.refl _).alloc _).alloc _).alloc _), (Bk.newE _ _ (by simp) _ _).ext (((Ext.refl _).alloc _).alloc _), (Bk.newE _ _ (by simp) _ _).ext ((Ext.refl _).alloc _), Bk.newE _ _ (by simp) _ _⟩
  have hl : (esE nm gv gh).length = 31 := rfl
  obtain ⟨es, hes⟩ : ∃ es, esE nm gv gh = es := ⟨_, rfl⟩
  rw [hes] at hW B4 hl ⊢
  go_enter Tryz.func25, Tryz.ntmps25
  go_upto_region 1 with (fail)
  rw [← hW]
  clear hW
  go_wp2_with fail
  refine wp_loop_rounds 1 ?_
  rw [rounds_succ]
  go_upto_region 2 with (fail)
  refine rg 16 [some 9, some 10, some 11, some 12, some 13, some 14, some 15, some 16, some 17, some 18, some 19, some 20, some 21, some 22, some 23, some 24] [IsV (.int .i64 0), IsV (.pointer (some ⟨w.heap.size, 0, none⟩)), IsV (.slice none 0 0), IsV (.int .i64 0), IsV (.bool false), IsV (.bool false), IsV undef, IsV undef, IsV undef, IsV undef, IsV undef, IsV undef, IsV undef, IsV undef, IsV undef, IsV (.bool false)] [] 0 ?_ ?_ (hst := by repeat' (first | exact trivial | exact IsV.stb _ | apply And.intro))
  · refine Rc (mv (Od.lit (x := .int .i64 0) 7)) ?_
    refine Rc (fa (fa_Sh0 w.heap.size) (Od.lit 3)) ?_
    refine Rc (lvC 0 B3 ld_aH (Od.lc 1 10)) ?_
    refine Rc (lnS (p := none) (n := 0) (c := 0) (Od.lc 2 11)) ?_
    refine Rc (bn (r := .bool false) (Od.loc 0 9) (Od.loc 3 12) (hr := fun w => by go_simp)) ?_
    refine Rc (mv (Od.lc (Φ := IsV (.bool false)) 4 13)) ?_
    refine RcN 5 14 false ?_
    refine RcN 5 14 false ?_
    refine RcN 5 14 false ?_
    refine RcN 5 14 false ?_
    refine RcN 5 14 false ?_
    refine RcN 5 14 false ?_
    refine RcN 5 14 false ?_
    refine RcN 5 14 false ?_
    refine RcN 5 14 false ?_
    refine Rc (pk (b := false) (Od.lc 5 14) Od.con) ?_
    exact RgAll.nil
  intro v X9 e1 hΦ _
  replace E := E.trans e1
  replace B3 := B3.ext e1
  replace B4 := B4.ext e1
  replace B5 := B5.ext e1
  replace B6 := B6.ext e1
  simp only [layL, Act.put, uAx, u0x, u1x, Nat.reduceAdd]
  rw [show v 15 = .bool false from hΦ 15 (by decide)]
  clear hΦ e1
  refine wpAny_done (by kernel_rfl) ?_ _
  go_upto_region 4 with (fail)
  refine rgs 7 [some 27, some 28, some 29, some 30, some 31, some 32, some 8] [IsE0, IsV (.pointer (some ⟨w.heap.size, 0, none⟩)), IsV (.slice none 0 0), IsV (.int .i64 0), IsV (.slice none 0 0), IsE0, IsE0] [] ?_ ?_ (hst := by repeat' (first | exact trivial | exact IsV.stb _ | exact IsE0.stb | apply And.intro))
  · refine Rc bs0 ?_
    refine Rc (fa (fa_Sh0 w.heap.size) (Od.lit 3)) ?_
    refine Rc (lvC 0 B3 ld_aH (Od.lc 1 28)) ?_
    refine Rc (mv (Od.lit (x := .int .i64 0) 7)) ?_
    refine Rc (slT (Od.lc 2 29) (Od.lc 3 30)) ?_
    refine Rc (ap0E (Od.lc 0 27) (Od.lc 4 31)) ?_
    refine Rc (mv (Od.lc (Φ := IsE0) 5 32)) ?_
    exact RgAll.nil
  intro v X2 e1 hΦ _
  obtain ⟨g8, hg8⟩ := hΦ 6 (by decide)
  replace E := E.trans e1
  replace B3 := B3.ext e1
  replace B4 := B4.ext e1
  replace B5 := B5.ext e1
  replace B6 := B6.ext e1
  simp only [layL, Act.put, uAx, u0x, u1x, Nat.reduceAdd]
  rw [hg8]
  clear hΦ e1 hg8
  refine wpList_nil ?_
  go_upto_region 5 with (fail)
  refine rg 16 [some 33, some 34, some 35, some 36, some 37, some 38, some 39, some 40, some 41, some 42, some 43, some 44, some 45, some 46, some 47, some 48] [IsV (.int .i64 0), IsV (.pointer (some ⟨w.heap.size, 0, none⟩)), IsV (.slice none 0 0), IsV (.int .i64 0), IsV (.bool false), IsV (.bool false), IsV undef, IsV undef, IsV undef, IsV undef, IsV undef, IsV undef, IsV undef, IsV undef, IsV undef, IsV (.bool false)] [] 0 ?_ ?_ (hst := by repeat' (first | exact trivial | exact IsV.stb _ | apply And.intro))
  · refine Rc (mv (Od.lit (x := .int .i64 0) 7)) ?_
    refine Rc (fa (fa_Sh0 w.heap.size) (Od.lit 3)) ?_
    refine Rc (lvC 0 B3 ld_aH (Od.lc 1 34)) ?_
    refine Rc (lnS (p := none) (n := 0) (c := 0) (Od.lc 2 35)) ?_
    refine Rc (bn (r := .bool false) (Od.loc 0 33) (Od.loc 3 36) (hr := fun w => by go_simp)) ?_
    refine Rc (mv (Od.lc (Φ := IsV (.bool false)) 4 37)) ?_
    refine RcN 5 38 false ?_
    refine RcN 5 38 false ?_
    refine RcN 5 38 false ?_
    refine RcN 5 38 false ?_
    refine RcN 5 38 false ?_
    refine RcN 5 38 false ?_
    refine RcN 5 38 false ?_
    refine RcN 5 38 false ?_
    refine RcN 5 38 false ?_
    refine Rc (pk (b := false) (Od.lc 5 38) Od.con) ?_
    exact RgAll.nil
  intro v X33 e1 hΦ _
  replace E := E.trans e1
  replace B3 := B3.ext e1
  replace B4 := B4.ext e1
  replace B5 := B5.ext e1
  replace B6 := B6.ext e1
  simp only [layL, Act.put, uAx, u0x, u1x, Nat.reduceAdd]
  rw [show v 15 = .bool false from hΦ 15 (by decide)]
  clear hΦ e1
  refine wpAny_done (by kernel_rfl) ?_ _
  go_upto_region 8 with (fail)
  subst hes
  refine rgs 7 [some 70, some 71, some 72, some 73, some 74, some 75, some 76] [IsE0, IsV (.agg (esE nm gv gh).toArray), IsV (.agg #[.int .i64 0, .int .i64 0, .int .i64 0]), IsSo, IsHd nm gv gh, IsHr nm gv gh, IsHr nm gv gh] [] ?_ ?_ (hst := by repeat' (first | exact trivial | exact IsV.stb _ | exact IsE0.stb | exact IsSo.stb | exact IsHd.stb _ _ _ | exact IsHr.stb _ _ _ | apply And.intro))
  · refine Rc (mv ⟨fun v a w' hE hd hf => ⟨g8, (Od.lit (x := .slice (some ⟨g8, 0, none⟩) 0 0) 8 : Od _ _ _ _ _ _ _ (IsV (.slice (some ⟨g8, 0, none⟩) 0 0))).out v a w' hE hd hf⟩⟩) ?_
    refine Rc (lvV B4 ld_En (Od.lit 4)) ?_
    refine Rc (lvV B5 ld_So (Od.lit 5)) ?_
    refine Rc (bsSo (Od.lc 2 72)) ?_
    refine Rc (bdHd (nm := nm) (gv := gv) (gh := gh) (Od.lc 1 71) (Od.lc 3 73)) ?_
    refine Rc (bsHd (nm := nm) (gv := gv) (gh := gh) (Od.lc 4 74)) ?_
    refine Rc (apHr (nm := nm) (gv := gv) (gh := gh) (Od.lc 0 70) (Od.lc 5 75)) ?_
    exact RgAll.nil
  intro v X3 e1 hΦ _
  have h8 : IsHr nm gv gh (v 6) X3 := hΦ 6 (by decide)
  replace E := E.trans e1
  replace B3 := B3.ext e1
  replace B6 := B6.ext e1
  simp only [layL, Act.put, uAx, u0x, u1x, Nat.reduceAdd]
  obtain ⟨u8, hu8⟩ : ∃ u, v 6 = u := ⟨_, rfl⟩
  rw [hu8] at h8 ⊢
  clear hΦ e1 hu8 B4 B5
  refine stL (fun K hK => ?_)
  refine wp_mvA (u := u8) (by kernel_rfl) (hK _ _ ?_)
  clear hK K
  simp only [Act.put, uAx, u0x, u1x, Nat.reduceAdd]
  refine wpList_nil ?_
  go_upto_region 9 with (fail)
  refine rgs 7 [some 77, some 78, some 79, some 80, some 81, some 82, some 83] [IsHr nm gv gh, IsV (.pointer (some ⟨w.heap.size, 0, none⟩)), IsV (.slice none 0 0), IsV (.int .i64 0), IsV (.slice none 0 0), IsHr nm gv gh, IsShf nm gv gh] [] ?_ ?_ (hst := by repeat' (first | exact trivial | exact IsV.stb _ | exact IsHr.stb _ _ _ | exact IsShf.stb _ _ _ | apply And.intro))
  · refine Rc (mv ⟨fun v a w' hE hd hf => by
      have e1 : _ = u8 := (Od.lit (x := u8) 8 : Od _ _ _ _ _ _ _ (IsV u8)).out v a w' hE hd hf
      rw [e1]
      exact IsHr.stb _ _ _ _ _ _ hE h8⟩) ?_
    refine Rc (fa (fa_Sh0 w.heap.size) (Od.lit 3)) ?_
    refine Rc (lvC 0 B3 ld_aH (Od.lc 1 78)) ?_
    refine Rc (mv (Od.lit (x := .int .i64 0) 7)) ?_
    refine Rc (slF (Od.lc 2 79) (Od.lc 3 80)) ?_
    refine Rc (ap0H (nm := nm) (gv := gv) (gh := gh) (Od.lc 0 77) (Od.lc 4 81)) ?_
    refine Rc (bdShf (nm := nm) (gv := gv) (gh := gh) (Od.lc 5 82)) ?_
    exact RgAll.nil
  intro v X4 e1 hΦ _
  obtain ⟨u9, hv9, gs, g9, c9, rfl, hc9, B9⟩ := hΦ 6 (by decide)
  replace E := E.trans e1
  have h3 : w.heap.size + 3 < X4.heap.size := Nat.lt_of_lt_of_le B6.lt e1.size
  replace B6 := B6.ext e1
  have hne : g9 ≠ w.heap.size + 3 := fun h => by
    have c1 := B9.c 0 _ rfl
    rw [h, B6.c 0 _ rfl] at c1
    cases c1
  simp only [layL, Act.put, uAx, u0x, u1x, Nat.reduceAdd]
  rw [hv9]
  clear hΦ e1 B3
  refine stL (fun K hK => ?_)
  refine stVO (us := [.slice (some ⟨g9, 0, none⟩) 1 c9]) B6 st_Sh rfl rfl (fun v hv => by obtain rfl : v = .slice none 0 0 := by simpa using hv
                                                                                          exact NoWord.slice _ _ _) (fun X5 B6' O => hK _ _ ?_)
  replace E := (Ob.only O).ext E (by omega)
  have B9' := (Ob.only O).bk B9 hne
  clear hK O B6 K B9
  refine wpList_nil ?_
  go_wp2_with fail
  exact bodyPost_ret (res_c Tryz.results25 rfl (lv_Sh rfl B6')) rfl ⟨_, rfl, E, _, rfl, gs, g9, c9, rfl, hc9, B9'⟩
end Go.Proofs.YtkeikfekkdplgaaGreatDoor
