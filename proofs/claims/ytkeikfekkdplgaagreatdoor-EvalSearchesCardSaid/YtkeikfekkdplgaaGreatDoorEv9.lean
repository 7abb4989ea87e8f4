/-
  Package eval: eval, case by case. (Printed by wip/gen/ev9.py.)
-/
import Derived.Test.YtkeikfekkdplgaaGreatDoorEv7
import Derived.Test.YtkeikfekkdplgaaGreatDoorEv8
namespace Go.Proofs.YtkeikfekkdplgaaGreatDoor
open Go Go.RowKit
/-- How things stand in eval: what the machine has done since w; the boxes of the expression and of the result. -/
structure EIv {σ : Type} (m : Mc) (J : σ → World → Prop) (w : World) (us : List Value) (st : Mst σ) (W : World) : Prop where
  rm : Rm m.h w W
  mat : MAt m st.1 W
  j : J st.2 W
  b4 : Bk W w.heap.size us
  b6 : Bk W (w.heap.size + 1) [.bool false, .slice none 0 0, .bool false, .slice none 0 0, .bool false]
section
variable {σ : Type} {m : Mc} {J : σ → World → Prop} {w : World} {us : List Value} {g : Nat} {st st' : Mst σ} {W W' : World}
theorem EIv.start (hJ : MapInv m.h J) (hh : m.h + 3 ≤ w.heap.size) (hM : MAt m st.1 w) (hj : J st.2 w) (us : Array Value) (T T' : TypeId) :
    EIv m J w us.toList st ((w.alloc (.cells us T)).alloc (.cells #[.bool false, .slice none 0 0, .bool false, .slice none 0 0, .bool false] T')) := by
  have e : Ext w ((w.alloc (.cells us T)).alloc (.cells #[.bool false, .slice none 0 0, .bool false, .slice none 0 0, .bool false] T')) := ((Ext.refl w).alloc _).alloc _
  exact ⟨Rm.ext e, hM.ext e, hJ.ext hj e hh, (Bk.new w us T).ext ((Ext.refl _).alloc _), Bk.newE _ _ (by simp) _ _⟩
theorem EIv.ext (S : EIv m J w us st W) (hJ : MapInv m.h J) (hh : m.h + 3 ≤ w.heap.size) (e : Ext W W') : EIv m J w us st W' :=
  ⟨S.rm.trans (Rm.ext e), S.mat.ext e, hJ.ext S.j e (Nat.le_trans hh S.rm.size), S.b4.ext e, S.b6.ext e⟩
theorem EIv.only (S : EIv m J w us st W) (hJ : MapInv m.h J) (hh : m.h + 3 ≤ w.heap.size) (O : OnlyB g W W') (hg : w.heap.size + 2 ≤ g) : EIv m J w us st W' :=
  ⟨O.rm S.rm (by omega), ⟨O.bk S.mat.bk (by omega), S.mat.fit⟩, hJ.only S.j O (by omega), O.bk S.b4 (by omega), O.bk S.b6 (by omega)⟩
theorem EIv.call (S : EIv m J w us st W) (hh : m.h + 3 ≤ w.heap.size) (R : Rm m.h W W') (M : MAt m st'.1 W') (j : J st'.2 W') : EIv m J w us st' W' :=
  ⟨S.rm.trans R, M, j, R.bk S.b4 (by omega), R.bk S.b6 (by omega)⟩
theorem EIv.last (S : EIv m J w us st W) (hJ : MapInv m.h J) (hh : m.h + 3 ≤ w.heap.size) (O : OnlyB (w.heap.size + 1) W W') : Rm m.h w W' ∧ MAt m st.1 W' ∧ J st.2 W' :=
  ⟨O.rm S.rm (by omega), ⟨O.bk S.mat.bk (by omega), S.mat.fit⟩, hJ.only S.j O (by omega)⟩
theorem EIv.sz (S : EIv m J w us st W) : w.heap.size + 2 ≤ W.heap.size := S.b6.lt
end
section
variable {P : Program} {Q : Exit → Act → World → Prop} {o : Oper} {f : FuncId} {c : Call} {x y z t : Operand} {u1 u2 u3 u4 : Value} {a : Act} {w : World} {K : Act → World → Prop} {R : Ending → World → Prop}
theorem wp_callN {xs : List Operand} {us : List Value} (he : ∀ args w, (callFunc f args).run P w = .ok (.enter f args) w) (hx : xs.map a.eval = us)
    (h : Calls P f us.toArray w R) (h1 : ∀ v w', R (.returned v) w' → K (a.put o.dst v) w') (h2 : ∀ ch w', R (.panicked ch) w' → Q (.panic ch) a w') (h3 : ∀ w', ¬ R .outgrown w')
    (ho : o.op = .call c := by rfl) (hc : c.callee = .value (.func f) := by rfl) (ha : c.args = xs.toArray := by rfl) : Oper.wp P o a w K Q := by
  have hr : (execOp a.eval o).run P w = .ok (.enter f (c.args.map a.eval)) w := by
    unfold execOp
    rw [ho]
    dsimp only
    unfold resolve
    rw [hc]
    simp [invoke, he, Deferred.ofValue, show a.eval (.func f) = .func (.func f) #[] #[] from rfl]
  unfold Oper.wp
  rw [hr, Oper.upon_enter, ha, List.map_toArray, hx]
  refine Calls.mono h ?_
  intro e w2 hR
  cases e with
  | returned v => exact h1 v w2 hR
  | panicked ch => exact h2 ch w2 hR
  | outgrown => exact absurd hR (h3 w2)
/-- A new box, at any place of a region. -/
theorem wp_alB {T : Nat} {vs : List Value} (hr : ∀ w, (Instr.alloc T true (.tuple #[])).run P w = .ok (.pointer (some ⟨w.heap.size, 0, none⟩)) (w.alloc (.cells vs.toArray T)))
    (h : Bk (w.alloc (.cells vs.toArray T)) w.heap.size vs → Ext w (w.alloc (.cells vs.toArray T)) → K (a.put o.dst (.pointer (some ⟨w.heap.size, 0, none⟩))) (w.alloc (.cells vs.toArray T))) (ho : o.op = .alloc T := by rfl) : Oper.wp P o a w K Q := by
  have h9 : (execOp a.eval o).run P w = .ok (.value (.pointer (some ⟨w.heap.size, 0, none⟩))) (w.alloc (.cells vs.toArray T)) := by
    unfold execOp
    rw [ho]
    simp [hr]
  unfold Oper.wp
  rw [h9]
  exact h (by simpa using Bk.new w vs.toArray T) ((Ext.refl _).alloc _)
end
/-- What a search says of a count, or of the first number. -/
def lpR {σ : Type} (fst : Bool) (hi : Int) (rr : Res Tr × Mst σ) : Res Kn × Mst σ :=
  match rr with
  | (.error n, st') => (.error n, st')
  | (.ok t, st') => (.ok (if fst then ⟨t.first, t.last, t.fin⟩ else ⟨t.sure, t.sure + t.opn + hi + 1 - t.next, t.fin⟩), st')
/-- The bounds of a search. -/
theorem srch_bd {σ : Type} (f : Int → Mst σ → Res Kn × Mst σ) (fst : Bool) (lo hi : Int) (t' : Tr) (st' : Mst σ) : ∀ (k : Nat) (t : Tr) (st : Mst σ),
    (lo ≤ t.next ∧ t.next ≤ hi + 1 ∧ 0 ≤ t.sure ∧ 0 ≤ t.opn ∧ t.sure + t.opn ≤ t.next - lo ∧ lo ≤ t.first ∧ t.first ≤ hi + 1 ∧ lo ≤ t.last ∧ t.last ≤ hi + 1) → srch f fst hi k t st = (.ok t', st') →
    lo ≤ t'.next ∧ t'.next ≤ hi + 1 ∧ 0 ≤ t'.sure ∧ 0 ≤ t'.opn ∧ t'.sure + t'.opn ≤ t'.next - lo + 1 ∧ lo ≤ t'.first ∧ t'.first ≤ hi + 1 ∧ lo ≤ t'.last ∧ t'.last ≤ hi + 1
  | 0, t, st, hb, h => by
    simp only [srch, Prod.mk.injEq, Except.ok.injEq] at h
    obtain ⟨rfl, _⟩ := h
    simp only [Tr.stop]
    omega
  | k + 1, t, st, hb, h => by
    rw [srch] at h
    by_cases hg : t.next ≤ hi ∧ 0 < st.1
    · rw [if_pos hg] at h
      split at h
      · simp at h
      · rename_i q st2 he
        simp only [Tr.step] at h
        by_cases c1 : q.lo = 0 ∧ q.hi = 0
        · rw [if_pos c1] at h
          exact srch_bd f fst lo hi t' st' k _ _ (by simp only; omega) h
        · rw [if_neg c1] at h
          by_cases c2 : q.lo ≤ 0 ∧ 0 ≤ q.hi
          · rw [if_pos c2] at h
            exact srch_bd f fst lo hi t' st' k _ _ (by simp only; omega) h
          · rw [if_neg c2] at h
            cases fst with
            | true =>
              simp only [if_true, Prod.mk.injEq, Except.ok.injEq] at h
              obtain ⟨rfl, _⟩ := h
              simp only
              omega
            | false =>
              simp only [Bool.false_eq_true, if_false] at h
              exact srch_bd f false lo hi t' st' k _ _ (by simp only; omega) h
    · rw [if_neg hg] at h
      simp only [Prod.mk.injEq, Except.ok.injEq] at h
      obtain ⟨rfl, _⟩ := h
      simp only [Tr.stop]
      omega
theorem ba_beq (x y : ByteArray) : (x == y) = decide (x = y) := by
  cases x with | mk a =>
  cases y with | mk b =>
  have : ((ByteArray.mk a) == (ByteArray.mk b)) = (a == b) := rfl
  rw [this]
  by_cases h : a = b
  · subst h; simp
  · simp [h]
theorem ba_listE (x y : ByteArray) : (x.toList == y.toList) = decide (x = y) := by
  rw [ByteArray.toList_eq, ByteArray.toList_eq]
  by_cases h : x = y
  · subst h; simp
  · have h2 : ¬ x.data = y.data := fun e => h (by cases x; cases y; simpa using e)
    simp [h, h2]
/-- The last binding of a name, from the end. -/
theorem look_at : ∀ (env : Env) (i : Nat) (x : ByteArray) (k : Int), env[i]? = some (x, k) → (env.drop (i + 1)).any (fun p => p.1 == x) = false → look env x = k
  | (y, k') :: t, 0, x, k, h, hd => by
    simp only [List.getElem?_cons_zero, Option.some.injEq, Prod.mk.injEq] at h
    simp only [List.drop_succ_cons, List.drop_zero] at hd
    rw [look, hd]
    simp [h.2]
  | (y, k') :: t, i + 1, x, k, h, hd => by
    have h' : t[i]? = some (x, k) := by simpa using h
    have ha : t.any (fun p => p.1 == x) = true := by
      rw [List.any_eq_true]
      exact ⟨(x, k), List.mem_of_getElem? h', by simp [ba_beq]⟩
    rw [look, ha]
    simpa using look_at t i x k h' (by simpa using hd)
theorem look_step (env : Env) (i : Nat) (x y : ByteArray) (k : Int) (h : env[i]? = some (y, k)) (hy : y ≠ x) (hd : (env.drop (i + 1)).any (fun p => p.1 == x) = false) (ha : env.any (fun p => p.1 == x) = true) : 0 < i ∧ (env.drop i).any (fun p => p.1 == x) = false := by
  have hi : i < env.length := (List.getElem?_eq_some_iff.1 h).1
  have e : env.drop i = env[i] :: env.drop (i + 1) := List.drop_eq_getElem_cons hi
  have e2 : env[i] = (y, k) := (List.getElem?_eq_some_iff.1 h).2
  have h2 : (env.drop i).any (fun p => p.1 == x) = false := by
    rw [e, e2, List.any_cons, hd]
    simp [ba_beq, hy]
  refine ⟨?_, h2⟩
  rcases Nat.eq_zero_or_pos i with rfl | h3
  · rw [List.drop_zero, ha] at h2; cases h2
  · exact h3
theorem ix_V (g n c j : Nat) (h : j < n) (w : World) : (Instr.indexAt 197 (.slice (some ⟨g, 0, none⟩) n c) (.int .i64 ((j : Nat) : Int))).run Tryz.prog w = .ok (.pointer (some ⟨g, 2 * j, none⟩)) w := by
  have h1 : (0 : Int) ≤ (j : Int) := by omega
  have h2 : (j : Int) < (n : Int) := by omega
  have h3 : 0 + j * 2 = 2 * j := by omega
  have h4 : j * 2 = 2 * j := by omega
  go_simp
theorem fa_V0 (g f : Nat) (w : World) : (Instr.fieldAt 200 (.pointer (some ⟨g, f, none⟩)) 0).run Tryz.prog w = .ok (.pointer (some ⟨g, f, none⟩)) w := by go_simp
theorem fa_V1 (g f : Nat) (w : World) : (Instr.fieldAt 200 (.pointer (some ⟨g, f, none⟩)) 1).run Tryz.prog w = .ok (.pointer (some ⟨g, f + 1, none⟩)) w := by go_simp

set_option maxRecDepth 100000 in
set_option maxHeartbeats 8000000 in
theorem eval_num {σ : Type} {m : Mc} {J : σ → World → Prop} {w : World} {st : Mst σ} {nm : ByteArray} {kk lo hi : Int} {s : Bool} {a : Option Addr} {n c : Nat} {A ve : Value} {z : Int} (hJ : MapInv m.h J) (hh : m.h + 3 ≤ w.heap.size) (hM : MAt m st.1 w) (hj : J st.2 w) (hz : IsI 128 z (.agg #[.bool s, .slice a n c]) w) :
    Calls Tryz.prog 84 #[.pointer (some ⟨m.h + 2, 0, none⟩), .agg #[.int .i64 1, .string nm, .int .i64 kk, .bool s, .slice a n c, .int .i64 lo, .int .i64 hi, A], ve] w (EvP m J w (.ok ⟨z, z, true⟩, st)) := by
  obtain ⟨W, hW, S⟩ : ∃ W, W = (w.alloc (.cells #[.int .i64 1, .string nm, .int .i64 kk, .bool s, .slice a n c, .int .i64 lo, .int .i64 hi, A] 31)).alloc (.cells #[.bool false, .slice none 0 0, .bool false, .slice none 0 0, .bool false] 176) ∧ EIv m J w [.int .i64 1, .string nm, .int .i64 kk, .bool s, .slice a n c, .int .i64 lo, .int .i64 hi, A] st W := ⟨_, rfl, EIv.start hJ hh hM hj _ _ _⟩
  have hs0 := S.sz
  replace hz := IsI.gstb _ _ _ _ _ S.rm.gr hz
  go_enter Tryz.func84, Tryz.ntmps84
  go_upto_region 1 with (fail)
  rw [← hW]
  clear hW
  have d0 := S.b4.c 0 _ rfl
  go_upto_region 3 with (fail)
  clear d0
  refine rgs 3 [some 19, some 20, some 21] [IsV (.pointer (some ⟨w.heap.size, 3, none⟩)), IsI 128 z, IsKn 128 z z true] [] ?_ ?_ (hst := by repeat' (first | exact trivial | exact IsV.stb _ | apply IsIf.stb | exact IsI.stb _ _ | exact IsKn.stb _ _ _ _ | exact IsNb.stb _ _ | apply And.intro))
  · refine Rc (fa (fa_Nd3 w.heap.size) (Od.lit 4)) ?_
    refine Rc (lvI 3 S.b4 hz ld_Int (Od.lc 0 19)) ?_
    refine Rc (cl1 (en Tryz.func109) (Od.lc (Φ := IsI 128 z) 1 20) (fun x0 w' hE d0 => exact_f d0)) ?_
    exact RgAll.nil
  intro v X1 e1 hΦ _
  replace S := S.ext hJ hh e1
  obtain ⟨s5, a5, n5, c5, s6, a6, n6, c6, hv, g1, g2⟩ := hΦ 2 (by decide)
  obtain ⟨fq, hfq⟩ : ∃ f, true = f := ⟨_, rfl⟩
  simp only [layL, Act.put, uAx, u0x, u1x, Nat.reduceAdd]
  rw [hv]
  clear hv hΦ e1 hz
  rw [hfq]
  refine stL (fun K hK => ?_)
  refine stVO (us := [.bool s5, .slice a5 n5 c5, .bool s6, .slice a6 n6 c6, .bool fq]) S.b6 st_Kn rfl rfl nw5 (fun X9 B9 O => hK _ _ ?_)
  obtain ⟨f1, f2, f3⟩ := S.last hJ hh O
  replace g1 := IsI.gstb _ _ _ _ _ O.gr g1
  replace g2 := IsI.gstb _ _ _ _ _ O.gr g2
  refine wpList_nil ?_
  have d0 := B9.c 0 _ rfl; have d1 := B9.c 1 _ rfl; have d2 := B9.c 2 _ rfl; have d3 := B9.c 3 _ rfl; have d4 := B9.c 4 _ rfl
  clear hK K O B9 S
  go_wp2_with fail
  exact bodyPost_ret (v := .agg #[.bool s5, .slice a5 n5 c5, .bool s6, .slice a6 n6 c6, .bool fq]) (by simp [results, Tryz.results84, go_sem, d0, d1, d2, d3, d4]) rfl ⟨f1, f2, f3, _, rfl, _, _, _, _, _, _, _, _, by rw [hfq], g1, g2⟩

set_option maxRecDepth 100000 in
set_option maxHeartbeats 8000000 in
theorem eval_cell {σ : Type} {m : Mc} {J : σ → World → Prop} {w : World} {st : Mst σ} {x : ByteArray} {kk lo hi : Int} {s : Bool} {a : Option Addr} {n c : Nat} {A ve : Value} {rr : Res Kn × Mst σ} (hJ : MapInv m.h J) (hh : m.h + 3 ≤ w.heap.size) (hM : MAt m st.1 w) (hj : J st.2 w) (HC : ∀ w', Rm m.h w w' → MAt m st.1 w' → J st.2 w' → w.heap.size ≤ w'.heap.size → Calls Tryz.prog 111 #[.pointer (some ⟨m.h + 2, 0, none⟩), .string x] w' (EvP m J w' rr)) :
    Calls Tryz.prog 84 #[.pointer (some ⟨m.h + 2, 0, none⟩), .agg #[.int .i64 2, .string x, .int .i64 kk, .bool s, .slice a n c, .int .i64 lo, .int .i64 hi, A], ve] w (EvP m J w rr) := by
  obtain ⟨W, hW, S⟩ : ∃ W, W = (w.alloc (.cells #[.int .i64 2, .string x, .int .i64 kk, .bool s, .slice a n c, .int .i64 lo, .int .i64 hi, A] 31)).alloc (.cells #[.bool false, .slice none 0 0, .bool false, .slice none 0 0, .bool false] 176) ∧ EIv m J w [.int .i64 2, .string x, .int .i64 kk, .bool s, .slice a n c, .int .i64 lo, .int .i64 hi, A] st W := ⟨_, rfl, EIv.start hJ hh hM hj _ _ _⟩
  have hs0 := S.sz
  go_enter Tryz.func84, Tryz.ntmps84
  go_upto_region 1 with (fail)
  rw [← hW]
  clear hW
  have d0 := S.b4.c 0 _ rfl
  go_upto_region 10 with (fail)
  clear d0
  refine rgs 3 [some 46, some 47, some 48] [IsV (.pointer (some ⟨m.h + 2, 0, none⟩)), IsV (.pointer (some ⟨w.heap.size, 1, none⟩)), IsV (.string x)] [] ?_ ?_ (hst := by repeat' (first | exact trivial | exact IsV.stb _ | apply IsIf.stb | exact IsI.stb _ _ | exact IsKn.stb _ _ _ _ | exact IsNb.stb _ _ | apply And.intro))
  · refine Rc (mv (Od.lit 0)) ?_
    refine Rc (fa (fa_Nd1 w.heap.size) (Od.lit 4)) ?_
    refine Rc (lvC 1 S.b4 ld_str (Od.lc 1 47)) ?_
    exact RgAll.nil
  intro v X1 e1 hΦ _
  replace S := S.ext hJ hh e1
  simp only [layL, Act.put, uAx, u0x, u1x, Nat.reduceAdd]
  rw [show v 0 = .pointer (some ⟨m.h + 2, 0, none⟩) from hΦ 0 (by decide), show v 2 = .string x from hΦ 2 (by decide)]
  clear hΦ e1
  refine stL (fun K hK => ?_)
  refine wp_callN (us := [.pointer (some ⟨m.h + 2, 0, none⟩), .string x]) (en Tryz.func111) (by kernel_rfl) (HC _ S.rm S.mat S.j S.rm.size) (fun v2 X2 h => hK _ _ ?_) (fun ch X2 h => ?_) (fun X2 h => ?_)
  · obtain ⟨hR, hMA, hJA, h⟩ := h
    obtain ⟨res, st2⟩ := rr
    cases res with
    | error nn => cases h
    | ok q =>
      obtain ⟨_, hv, s5, a5, n5, c5, s6, a6, n6, c6, hv2, g1, g2⟩ := h
      cases hv
      subst hv2
      replace S := S.call hh hR hMA hJA
      clear hK K
      go_simp
      obtain ⟨fq, hfq⟩ : ∃ f, q.fin = f := ⟨_, rfl⟩
      rw [hfq]
      refine stL (fun K hK => ?_)
      refine stVO (us := [.bool s5, .slice a5 n5 c5, .bool s6, .slice a6 n6 c6, .bool fq]) S.b6 st_Kn rfl rfl nw5 (fun X9 B9 O => hK _ _ ?_)
      obtain ⟨f1, f2, f3⟩ := S.last hJ hh O
      replace g1 := IsI.gstb _ _ _ _ _ O.gr g1
      replace g2 := IsI.gstb _ _ _ _ _ O.gr g2
      refine wpList_nil ?_
      have d0 := B9.c 0 _ rfl; have d1 := B9.c 1 _ rfl; have d2 := B9.c 2 _ rfl; have d3 := B9.c 3 _ rfl; have d4 := B9.c 4 _ rfl
      clear hK K O B9 S
      go_wp2_with fail
      exact bodyPost_ret (v := .agg #[.bool s5, .slice a5 n5 c5, .bool s6, .slice a6 n6 c6, .bool fq]) (by simp [results, Tryz.results84, go_sem, d0, d1, d2, d3, d4]) rfl ⟨f1, f2, f3, _, rfl, _, _, _, _, _, _, _, _, by rw [hfq], g1, g2⟩
  · obtain ⟨hR, hMA, hJA, h⟩ := h
    obtain ⟨res, st2⟩ := rr
    cases res with
    | ok q => obtain ⟨_, hv, _⟩ := h; cases hv
    | error nn =>
      cases h
      exact ⟨rfl, S.rm.trans hR, hMA, hJA, rfl⟩
  · obtain ⟨hR, hMA, hJA, h⟩ := h
    obtain ⟨res, st2⟩ := rr
    cases res with
    | ok q => obtain ⟨_, hv, _⟩ := h; cases hv
    | error nn => cases h

set_option maxRecDepth 100000 in
set_option maxHeartbeats 8000000 in
theorem eval_val {σ : Type} {m : Mc} {J : σ → World → Prop} {w : World} {st : Mst σ} {x : ByteArray} {kk lo hi : Int} {s : Bool} {a : Option Addr} {n c : Nat} {A ve : Value} {rr : Res Kn × Mst σ} (hJ : MapInv m.h J) (hh : m.h + 3 ≤ w.heap.size) (hM : MAt m st.1 w) (hj : J st.2 w) (HC : ∀ w', Rm m.h w w' → MAt m st.1 w' → J st.2 w' → w.heap.size ≤ w'.heap.size → Calls Tryz.prog 112 #[.pointer (some ⟨m.h + 2, 0, none⟩), .string x, .int .i64 kk, ve] w' (EvP m J w' rr)) :
    Calls Tryz.prog 84 #[.pointer (some ⟨m.h + 2, 0, none⟩), .agg #[.int .i64 3, .string x, .int .i64 kk, .bool s, .slice a n c, .int .i64 lo, .int .i64 hi, A], ve] w (EvP m J w rr) := by
  obtain ⟨W, hW, S⟩ : ∃ W, W = (w.alloc (.cells #[.int .i64 3, .string x, .int .i64 kk, .bool s, .slice a n c, .int .i64 lo, .int .i64 hi, A] 31)).alloc (.cells #[.bool false, .slice none 0 0, .bool false, .slice none 0 0, .bool false] 176) ∧ EIv m J w [.int .i64 3, .string x, .int .i64 kk, .bool s, .slice a n c, .int .i64 lo, .int .i64 hi, A] st W := ⟨_, rfl, EIv.start hJ hh hM hj _ _ _⟩
  have hs0 := S.sz
  go_enter Tryz.func84, Tryz.ntmps84
  go_upto_region 1 with (fail)
  rw [← hW]
  clear hW
  have d0 := S.b4.c 0 _ rfl
  go_upto_region 12 with (fail)
  clear d0
  refine rgs 6 [some 52, some 53, some 54, some 55, some 56, some 57] [IsV (.pointer (some ⟨m.h + 2, 0, none⟩)), IsV (.pointer (some ⟨w.heap.size, 1, none⟩)), IsV (.string x), IsV (.pointer (some ⟨w.heap.size, 2, none⟩)), IsV (.int .i64 kk), IsV ve] [] ?_ ?_ (hst := by repeat' (first | exact trivial | exact IsV.stb _ | apply IsIf.stb | exact IsI.stb _ _ | exact IsKn.stb _ _ _ _ | exact IsNb.stb _ _ | apply And.intro))
  · refine Rc (mv (Od.lit 0)) ?_
    refine Rc (fa (fa_Nd1 w.heap.size) (Od.lit 4)) ?_
    refine Rc (lvC 1 S.b4 ld_str (Od.lc 1 53)) ?_
    refine Rc (fa (fa_Nd2 w.heap.size) (Od.lit 4)) ?_
    refine Rc (lvC 2 S.b4 ld_i (Od.lc 3 55)) ?_
    refine Rc (mv (Od.lit 2)) ?_
    exact RgAll.nil
  intro v X1 e1 hΦ _
  replace S := S.ext hJ hh e1
  simp only [layL, Act.put, uAx, u0x, u1x, Nat.reduceAdd]
  rw [show v 0 = .pointer (some ⟨m.h + 2, 0, none⟩) from hΦ 0 (by decide), show v 2 = .string x from hΦ 2 (by decide), show v 4 = .int .i64 kk from hΦ 4 (by decide), show v 5 = ve from hΦ 5 (by decide)]
  clear hΦ e1
  refine stL (fun K hK => ?_)
  refine wp_callN (us := [.pointer (some ⟨m.h + 2, 0, none⟩), .string x, .int .i64 kk, ve]) (en Tryz.func112) (by kernel_rfl) (HC _ S.rm S.mat S.j S.rm.size) (fun v2 X2 h => hK _ _ ?_) (fun ch X2 h => ?_) (fun X2 h => ?_)
  · obtain ⟨hR, hMA, hJA, h⟩ := h
    obtain ⟨res, st2⟩ := rr
    cases res with
    | error nn => cases h
    | ok q =>
      obtain ⟨_, hv, s5, a5, n5, c5, s6, a6, n6, c6, hv2, g1, g2⟩ := h
      cases hv
      subst hv2
      replace S := S.call hh hR hMA hJA
      clear hK K
      go_simp
      obtain ⟨fq, hfq⟩ : ∃ f, q.fin = f := ⟨_, rfl⟩
      rw [hfq]
      refine stL (fun K hK => ?_)
      refine stVO (us := [.bool s5, .slice a5 n5 c5, .bool s6, .slice a6 n6 c6, .bool fq]) S.b6 st_Kn rfl rfl nw5 (fun X9 B9 O => hK _ _ ?_)
      obtain ⟨f1, f2, f3⟩ := S.last hJ hh O
      replace g1 := IsI.gstb _ _ _ _ _ O.gr g1
      replace g2 := IsI.gstb _ _ _ _ _ O.gr g2
      refine wpList_nil ?_
      have d0 := B9.c 0 _ rfl; have d1 := B9.c 1 _ rfl; have d2 := B9.c 2 _ rfl; have d3 := B9.c 3 _ rfl; have d4 := B9.c 4 _ rfl
      clear hK K O B9 S
      go_wp2_with fail
      exact bodyPost_ret (v := .agg #[.bool s5, .slice a5 n5 c5, .bool s6, .slice a6 n6 c6, .bool fq]) (by simp [results, Tryz.results84, go_sem, d0, d1, d2, d3, d4]) rfl ⟨f1, f2, f3, _, rfl, _, _, _, _, _, _, _, _, by rw [hfq], g1, g2⟩
  · obtain ⟨hR, hMA, hJA, h⟩ := h
    obtain ⟨res, st2⟩ := rr
    cases res with
    | ok q => obtain ⟨_, hv, _⟩ := h; cases hv
    | error nn =>
      cases h
      exact ⟨rfl, S.rm.trans hR, hMA, hJA, rfl⟩
  · obtain ⟨hR, hMA, hJA, h⟩ := h
    obtain ⟨res, st2⟩ := rr
    cases res with
    | ok q => obtain ⟨_, hv, _⟩ := h; cases hv
    | error nn => cases h

set_option maxRecDepth 100000 in
set_option maxHeartbeats 8000000 in
theorem eval_var {σ : Type} {m : Mc} {J : σ → World → Prop} {w : World} {st : Mst σ} {x : ByteArray} {kk lo hi : Int} {s : Bool} {a : Option Addr} {n c : Nat} {A ve : Value} {env : Env} (hJ : MapInv m.h J) (hh : m.h + 3 ≤ w.heap.size) (hM : MAt m st.1 w) (hj : J st.2 w) (hE : IsEnv m.h env ve w) (ha : env.any (fun p => p.1 == x) = true) (hb : -9223372036854775808 ≤ look env x ∧ look env x ≤ 9223372036854775807) :
    Calls Tryz.prog 84 #[.pointer (some ⟨m.h + 2, 0, none⟩), .agg #[.int .i64 11, .string x, .int .i64 kk, .bool s, .slice a n c, .int .i64 lo, .int .i64 hi, A], ve] w (EvP m J w (.ok ⟨look env x, look env x, true⟩, st)) := by
  obtain ⟨h0, ao, cp, rfl, hcp, hle, hnil, hcs⟩ := hE
  obtain ⟨ge, rfl, hge, hge2, hcells⟩ := hcs (by intro he; subst he; simp at ha)
  obtain ⟨n0, hn0⟩ : ∃ n0, env.length = n0 := ⟨_, rfl⟩
  have hn1 : 0 < n0 := by rw [← hn0]; rcases env with _ | ⟨p, t⟩; · simp at ha
                          · simp
  have HB := hid (And.intro (And.intro hn0 hn1) (And.intro hcp hle))
  have HLB := hid hb; have HAN := hid ha
  have HCE := hid hcells
  rw [hn0]
  clear hnil hcs hn0 hcp hle hb ha hcells
  obtain ⟨W, hW, S⟩ : ∃ W, W = (w.alloc (.cells #[.int .i64 11, .string x, .int .i64 kk, .bool s, .slice a n c, .int .i64 lo, .int .i64 hi, A] 31)).alloc (.cells #[.bool false, .slice none 0 0, .bool false, .slice none 0 0, .bool false] 176) ∧ EIv m J w [.int .i64 11, .string x, .int .i64 kk, .bool s, .slice a n c, .int .i64 lo, .int .i64 hi, A] st W := ⟨_, rfl, EIv.start hJ hh hM hj _ _ _⟩
  have hs0 := S.sz
  have HW1 := hid (show IntKind.i64.wrap ((n0 : Int) - 1) = (n0 : Int) - 1 by have := HB.out; simp only [IntKind.wrap_i64]; omega)
  clear hn1
  go_enter Tryz.func84, Tryz.ntmps84
  go_upto_region 1 with (fail)
  rw [← hW]
  clear hW
  have d0 := S.b4.c 0 _ rfl
  go_upto_region 5 with (fail)
  clear d0
  refine rgs 4 [some 24, some 25, some 26, some 7] [IsV (.slice (some ⟨ge, 0, none⟩) n0 cp), IsV (.int .i64 ((n0 : Nat) : Int)), IsV (.int .i64 ((n0 : Int) - 1)), IsV (.int .i64 ((n0 : Int) - 1))] [] ?_ ?_ (hst := by repeat' (first | exact trivial | exact IsV.stb _ | apply IsIf.stb | exact IsI.stb _ _ | exact IsKn.stb _ _ _ _ | exact IsNb.stb _ _ | apply And.intro))
  · refine Rc (mv (Od.lit 2)) ?_
    refine Rc (lenV (Od.lc (Φ := IsV (.slice (some ⟨ge, 0, none⟩) n0 cp)) 0 24)) ?_
    refine Rc (bn (r := .int .i64 ((n0 : Int) - 1)) (Od.loc 1 25) Od.con (hr := fun w => by have hx9 := HW1.out; go_simp)) ?_
    refine Rc (mv (Od.lc 2 26)) ?_
    exact RgAll.nil
  intro v X1 e1 hΦ _
  replace S := S.ext hJ hh e1
  simp only [layL, Act.put, uAx, u0x, u1x, Nat.reduceAdd]
  rw [show v 3 = .int .i64 ((n0 : Int) - 1) from hΦ 3 (by decide)]
  clear hΦ e1
  refine wpList_nil ?_
  go_wp2_with fail
  have S0 := hid S; clear S
  go_loopg [7] n0 (fun gk v7 wr => ∃ (i : Nat), v7 = .int .i64 ((i : Nat) : Int) ∧ i + 1 = gk ∧ i < n0 ∧ Hid ((env.drop (i + 1)).any (fun p => p.1 == x) = false) ∧ Hid (EIv m J w [.int .i64 11, .string x, .int .i64 kk, .bool s, .slice a n c, .int .i64 lo, .int .i64 hi, A] st wr))
  case atStart => exact ⟨n0 - 1, by have := HB.out; rw [Int.ofNat_sub (by omega)]; rfl, by have := HB.out; omega, by have := HB.out; omega, hid (by have := HB.out; rw [show n0 - 1 + 1 = env.length by omega, List.drop_length]; rfl), S0⟩
  case round =>
    clear S0
    obtain ⟨i, rfl, hg, hi, hd, S⟩ := hrel
    have S := S.out
    obtain ⟨⟨y, k⟩, hyk⟩ : ∃ p, env[i]? = some p := ⟨_, List.getElem?_eq_getElem (by have := HB.out; omega)⟩
    have HYK := hid hyk
    have HCY := hid (HCE.out i y k hyk)
    have HG := hid (And.intro hg hi)
    clear hyk hg hi
    go_upto_region 6 with (fail)
    obtain ⟨bne, hbne⟩ : ∃ b, (!decide (y = x)) = b := ⟨_, rfl⟩
    have HBN := hid (show (y.toList == x.toList) = !bne by rw [ba_listE, ← hbne, Bool.not_not])
    have hrm := S.rm
    refine rg 8 [some 27, some 28, some 29, some 30, some 31, some 32, some 33, some 34] [IsV (.slice (some ⟨ge, 0, none⟩) n0 cp), IsV (.int .i64 ((i : Nat) : Int)), IsV (.pointer (some ⟨ge, 2 * i, none⟩)), IsV (.pointer (some ⟨ge, 2 * i, none⟩)), IsV (.string y), IsV (.pointer (some ⟨w.heap.size, 1, none⟩)), IsV (.string x), IsV (.bool bne)] [] 0 ?_ ?_ (hst := by repeat' (first | exact trivial | exact IsV.stb _ | apply IsIf.stb | exact IsI.stb _ _ | exact IsKn.stb _ _ _ _ | exact IsNb.stb _ _ | apply And.intro))
    · refine Rc (mv (Od.lit 2)) ?_
      refine Rc (mv (Od.lit (x := .int .i64 ((i : Nat) : Int)) 7)) ?_
      refine Rc (ixq (ix_V ge n0 cp i HG.out.2) (Od.lc 0 27) (Od.lc 1 28)) ?_
      refine Rc (fa (fa_V0 ge (2 * i)) (Od.lc 2 29)) ?_
      refine Rc (lv (Φ := IsV (.string y)) _ (fun w' e => ld_str w' _ _ (e.cell (S.rm.cell HCY.out.1 (.inr hge)))) (Od.lc 3 30) (fun _ _ => rfl)) ?_
      refine Rc (fa (fa_Nd1 w.heap.size) (Od.lit 4)) ?_
      refine Rc (lvC 1 S.b4 ld_str (Od.lc 5 32)) ?_
      refine Rc (bn (r := .bool bne) (Od.loc 4 31) (Od.loc 6 33) (hr := fun w => by have hx9 := HBN.out; go_simp)) ?_
      exact RgAll.nil
    intro v X2 e1 hΦ _
    replace S := S.ext hJ hh e1
    simp only [layL, Act.put, uAx, u0x, u1x, Nat.reduceAdd]
    rw [show v 7 = .bool bne from hΦ 7 (by decide)]
    clear hΦ e1
    refine wpAny_done (by kernel_rfl) ?_ _
    cases bne with
    | true =>
      have hyx : y ≠ x := by simpa using hbne
      obtain ⟨h1, h2⟩ := look_step env i x y k HYK.out hyx hd.out HAN.out
      have H1 := hid h1; have H2 := hid h2
      have HW2 := hid (show IntKind.i64.wrap ((i : Int) - 1) = ((i - 1 : Nat) : Int) by have := HB.out; have := HG.out; simp only [IntKind.wrap_i64]; omega)
      clear h1 h2 hyx hbne hd
      go_upto_region 7 with (fail)
      refine rgs 2 [some 35, some 36] [IsV (.int .i64 ((i : Nat) : Int)), IsV (.int .i64 ((i - 1 : Nat) : Int))] [] ?_ ?_ (hst := by repeat' (first | exact trivial | exact IsV.stb _ | apply IsIf.stb | exact IsI.stb _ _ | exact IsKn.stb _ _ _ _ | exact IsNb.stb _ _ | apply And.intro))
      · refine Rc (mv (Od.lit (x := .int .i64 ((i : Nat) : Int)) 7)) ?_
        refine Rc (bn (r := .int .i64 ((i - 1 : Nat) : Int)) (Od.loc 0 35) Od.con (hr := fun w => by have hx9 := HW2.out; go_simp)) ?_
        exact RgAll.nil
      intro v X3 e1 hΦ _
      replace S := S.ext hJ hh e1
      simp only [layL, Act.put, uAx, u0x, u1x, Nat.reduceAdd]
      rw [show v 1 = .int .i64 ((i - 1 : Nat) : Int) from hΦ 1 (by decide)]
      clear hΦ e1
      refine wpList_step fun K hK => ?_; go_simp; refine hK _ _ ?_; clear hK K
      refine wpList_nil ?_
      have S' := hid S; clear S hrm
      go_wp2_with fail
      go_roundg (gk - 1)
      case measure => have := HG.out; have := H1.out; omega
      case rel => exact ⟨i - 1, rfl, by have := HG.out; have := H1.out; omega, by have := HG.out; omega, hid (by have := H1.out; rw [show i - 1 + 1 = i by omega]; exact H2.out), S'⟩
    | false =>
      obtain rfl : y = x := by simpa using hbne
      have HLK := hid (look_at env i y k HYK.out hd.out)
      rw [HLK.out] at HLB
      clear hbne hd
      go_upto_region 8 with (fail)
      refine rgs 7 [some 37, some 38, some 39, some 40, some 41, some 42, some 43] [IsV (.slice (some ⟨ge, 0, none⟩) n0 cp), IsV (.int .i64 ((i : Nat) : Int)), IsV (.pointer (some ⟨ge, 2 * i, none⟩)), IsV (.pointer (some ⟨ge, 2 * i + 1, none⟩)), IsV (.int .i64 k), IsI 2 k, IsKn 2 k k true] [] ?_ ?_ (hst := by repeat' (first | exact trivial | exact IsV.stb _ | apply IsIf.stb | exact IsI.stb _ _ | exact IsKn.stb _ _ _ _ | exact IsNb.stb _ _ | apply And.intro))
      · refine Rc (mv (Od.lit 2)) ?_
        refine Rc (mv (Od.lit (x := .int .i64 ((i : Nat) : Int)) 7)) ?_
        refine Rc (ixq (ix_V ge n0 cp i HG.out.2) (Od.lc 0 37) (Od.lc 1 38)) ?_
        refine Rc (fa (fa_V1 ge (2 * i)) (Od.lc 2 39)) ?_
        refine Rc (lv (Φ := IsV (.int .i64 k)) _ (fun w' e => ld_i w' _ _ (e.cell (S.rm.cell HCY.out.2 (.inr hge)))) (Od.lc 3 40) (fun _ _ => rfl)) ?_
        refine Rc (cl1 (en Tryz.func110) (Od.lc (Φ := IsV (.int .i64 k)) 4 41) (fun x0 w' hE d0 => by { obtain rfl : x0 = .int .i64 k := d0; exact of_f w' k HLB.out })) ?_
        refine Rc (cl1 (en Tryz.func109) (Od.lc (Φ := IsI 2 k) 5 42) (fun x0 w' hE d0 => exact_f d0)) ?_
        exact RgAll.nil
      intro v X8 e1 hΦ _
      replace S := S.ext hJ hh e1
      obtain ⟨s5, a5, n5, c5, s6, a6, n6, c6, hv, g1, g2⟩ := hΦ 6 (by decide)
      obtain ⟨fq, hfq⟩ : ∃ f, true = f := ⟨_, rfl⟩
      simp only [layL, Act.put, uAx, u0x, u1x, Nat.reduceAdd]
      rw [hv]
      clear hv hΦ e1 hrm
      rw [hfq]
      replace g1 := g1.mono (show 2 ≤ 128 by decide)
      replace g2 := g2.mono (show 2 ≤ 128 by decide)
      rw [← HLK.out] at g1 g2
      refine stL (fun K hK => ?_)
      refine stVO (us := [.bool s5, .slice a5 n5 c5, .bool s6, .slice a6 n6 c6, .bool fq]) S.b6 st_Kn rfl rfl nw5 (fun X9 B9 O => hK _ _ ?_)
      obtain ⟨f1, f2, f3⟩ := S.last hJ hh O
      replace g1 := IsI.gstb _ _ _ _ _ O.gr g1
      replace g2 := IsI.gstb _ _ _ _ _ O.gr g2
      refine wpList_nil ?_
      have d0 := B9.c 0 _ rfl; have d1 := B9.c 1 _ rfl; have d2 := B9.c 2 _ rfl; have d3 := B9.c 3 _ rfl; have d4 := B9.c 4 _ rfl
      clear hK K O B9 S
      go_wp2_with fail
      exact bodyPost_ret (v := .agg #[.bool s5, .slice a5 n5 c5, .bool s6, .slice a6 n6 c6, .bool fq]) (by simp [results, Tryz.results84, go_sem, d0, d1, d2, d3, d4]) rfl ⟨f1, f2, f3, _, rfl, _, _, _, _, _, _, _, _, by first | rfl | rw [hfq], g1, g2⟩

set_option maxRecDepth 100000 in
set_option maxHeartbeats 8000000 in
theorem eval_count {σ : Type} {m : Mc} {J : σ → World → Prop} {w : World} {st : Mst σ} {x : ByteArray} {kk lo hi : Int} {s : Bool} {a : Option Addr} {n c : Nat} {g o mm cp : Nat} {ve : Value} {rr : Res Tr × Mst σ} (hJ : MapInv m.h J) (hh : m.h + 3 ≤ w.heap.size) (hM : MAt m st.1 w) (hj : J st.2 w) (HC : ∀ w', Rm m.h w w' → MAt m st.1 w' → J st.2 w' → w.heap.size ≤ w'.heap.size → Calls Tryz.prog 113 #[.pointer (some ⟨m.h + 2, 0, none⟩), .agg #[.int .i64 9, .string x, .int .i64 kk, .bool s, .slice a n c, .int .i64 lo, .int .i64 hi, .slice (some ⟨g, o, none⟩) mm cp], ve] w' (SrP m J w' rr)) (HBD : Hid (-1099511627776 ≤ lo ∧ lo ≤ hi + 1 ∧ hi ≤ 1099511627776)) (HT : Hid (∀ t st', rr = (.ok t, st') → lo ≤ t.next ∧ t.next ≤ hi + 1 ∧ 0 ≤ t.sure ∧ 0 ≤ t.opn ∧ t.sure + t.opn ≤ t.next - lo + 1 ∧ lo ≤ t.first ∧ t.first ≤ hi + 1 ∧ lo ≤ t.last ∧ t.last ≤ hi + 1)) :
    Calls Tryz.prog 84 #[.pointer (some ⟨m.h + 2, 0, none⟩), .agg #[.int .i64 9, .string x, .int .i64 kk, .bool s, .slice a n c, .int .i64 lo, .int .i64 hi, .slice (some ⟨g, o, none⟩) mm cp], ve] w (EvP m J w (lpR false hi rr)) := by
  obtain ⟨W, hW, S⟩ : ∃ W, W = (w.alloc (.cells #[.int .i64 9, .string x, .int .i64 kk, .bool s, .slice a n c, .int .i64 lo, .int .i64 hi, .slice (some ⟨g, o, none⟩) mm cp] 31)).alloc (.cells #[.bool false, .slice none 0 0, .bool false, .slice none 0 0, .bool false] 176) ∧ EIv m J w [.int .i64 9, .string x, .int .i64 kk, .bool s, .slice a n c, .int .i64 lo, .int .i64 hi, .slice (some ⟨g, o, none⟩) mm cp] st W := ⟨_, rfl, EIv.start hJ hh hM hj _ _ _⟩
  have hs0 := S.sz
  go_enter Tryz.func84, Tryz.ntmps84
  go_upto_region 1 with (fail)
  rw [← hW]
  clear hW
  have d0 := S.b4.c 0 _ rfl
  go_upto_region 14 with (fail)
  clear d0
  have hld : LdV Tryz.prog 31 8 := fun w' g' vs' hl B => ld_Nd hl (fun j v hj => by rw [Nat.zero_add]; exact B.c j v hj)
  refine rgs 3 [some 61, some 62, some 63] [IsV (.pointer (some ⟨m.h + 2, 0, none⟩)), IsV (.agg #[.int .i64 9, .string x, .int .i64 kk, .bool s, .slice a n c, .int .i64 lo, .int .i64 hi, .slice (some ⟨g, o, none⟩) mm cp]), IsV ve] [] ?_ ?_ (hst := by repeat' (first | exact trivial | exact IsV.stb _ | apply IsIf.stb | exact IsI.stb _ _ | exact IsKn.stb _ _ _ _ | exact IsNb.stb _ _ | apply And.intro))
  · refine Rc (mv (Od.lit 0)) ?_
    refine Rc (lvV S.b4 hld (Od.lit 4)) ?_
    refine Rc (mv (Od.lit 2)) ?_
    exact RgAll.nil
  intro v X1 e1 hΦ _
  replace S := S.ext hJ hh e1
  simp only [layL, Act.put, uAx, u0x, u1x, Nat.reduceAdd]
  rw [show v 0 = .pointer (some ⟨m.h + 2, 0, none⟩) from hΦ 0 (by decide), show v 1 = .agg #[.int .i64 9, .string x, .int .i64 kk, .bool s, .slice a n c, .int .i64 lo, .int .i64 hi, .slice (some ⟨g, o, none⟩) mm cp] from hΦ 1 (by decide), show v 2 = ve from hΦ 2 (by decide)]
  clear hΦ e1
  refine stL (fun K hK => ?_)
  refine wp_callN (us := [.pointer (some ⟨m.h + 2, 0, none⟩), .agg #[.int .i64 9, .string x, .int .i64 kk, .bool s, .slice a n c, .int .i64 lo, .int .i64 hi, .slice (some ⟨g, o, none⟩) mm cp], ve]) (en Tryz.func113) (by kernel_rfl) (HC _ S.rm S.mat S.j S.rm.size) (fun v2 X2 h => hK _ _ ?_) (fun ch X2 h => ?_) (fun X2 h => ?_)
  · obtain ⟨hR, hMA, hJA, h⟩ := h
    obtain ⟨res, st2⟩ := rr
    cases res with
    | error nn => cases h
    | ok q =>
      cases h
      have HQ := hid (HT.out q st2 rfl)
      obtain ⟨sure, opn, first, last, next, fq⟩ := q
      replace S := S.call hh hR hMA hJA
      clear hK K hR hMA hJA
      have hs2 := S.sz
      go_simp
      refine stL (fun K hK => ?_)
      refine wp_alB (vs := [.int .i64 0, .int .i64 0, .int .i64 0, .int .i64 0, .int .i64 0, .bool false]) al_Tr (fun B8 e1 => hK _ _ ?_)
      replace S := S.ext hJ hh e1
      obtain ⟨g8, hg8⟩ : ∃ g, X2.heap.size = g := ⟨_, rfl⟩
      rw [hg8] at B8 hs2 ⊢
      generalize X2.alloc (.cells [Value.int .i64 0, .int .i64 0, .int .i64 0, .int .i64 0, .int .i64 0, .bool false].toArray 205) = X3 at S B8 ⊢
      clear hK K e1 hg8
      go_simp
      refine stL (fun K hK => ?_)
      refine stVO (us := [.int .i64 sure, .int .i64 opn, .int .i64 first, .int .i64 last, .int .i64 next, .bool fq]) B8 st_Tr rfl rfl nwT (fun X4 B8' O => hK _ _ ?_)
      replace S := S.only hJ hh O hs2
      clear B8 hK K O
      refine wpList_nil ?_
      go_upto_region 15 with (fail)
      have HA1 := hid (show IntKind.i64.wrap (sure + opn) = sure + opn by have h8 := HQ.out; have := HBD.out; simp only at h8; simp only [IntKind.wrap_i64]; omega)
      have HA2 := hid (show IntKind.i64.wrap (sure + opn + hi) = sure + opn + hi by have h8 := HQ.out; have := HBD.out; simp only at h8; simp only [IntKind.wrap_i64]; omega)
      have HA3 := hid (show IntKind.i64.wrap (sure + opn + hi + 1) = sure + opn + hi + 1 by have h8 := HQ.out; have := HBD.out; simp only at h8; simp only [IntKind.wrap_i64]; omega)
      have HA4 := hid (show IntKind.i64.wrap (sure + opn + hi + 1 - next) = sure + opn + hi + 1 - next by have h8 := HQ.out; have := HBD.out; simp only at h8; simp only [IntKind.wrap_i64]; omega)
      refine rg 19 [some 65, some 66, some 67, some 68, some 69, some 70, some 71, some 72, some 73, some 74, some 75, some 76, some 77, some 78, some 79, some 80, some 81, some 82, some 83] [IsV (.pointer (some ⟨g8, 0, none⟩)), IsV (.int .i64 (sure)), IsI 2 sure, IsV (.pointer (some ⟨g8, 0, none⟩)), IsV (.int .i64 (sure)), IsV (.pointer (some ⟨g8, 1, none⟩)), IsV (.int .i64 (opn)), IsV (.int .i64 (sure + opn)), IsV (.pointer (some ⟨w.heap.size, 6, none⟩)), IsV (.int .i64 (hi)), IsV (.int .i64 (sure + opn + hi)), IsV (.int .i64 (sure + opn + hi + 1)), IsV (.pointer (some ⟨g8, 4, none⟩)), IsV (.int .i64 (next)), IsV (.int .i64 (sure + opn + hi + 1 - next)), IsI 2 (sure + opn + hi + 1 - next), IsV (.pointer (some ⟨g8, 5, none⟩)), IsV (.bool fq), IsKn 2 sure (sure + opn + hi + 1 - next) fq] [] 1 ?_ ?_ (hst := by repeat' (first | exact trivial | exact IsV.stb _ | apply IsIf.stb | exact IsI.stb _ _ | exact IsKn.stb _ _ _ _ | exact IsNb.stb _ _ | apply And.intro))
      · refine Rc (fa (fa_Tr0 g8) (Od.lit 8)) ?_
        refine Rc (lvC 0 B8' ld_i (Od.lc 0 65)) ?_
        refine Rc (cl1 (en Tryz.func110) (Od.lc (Φ := IsV (.int .i64 (sure))) 1 66) (fun x0 w' hE d0 => by { obtain rfl : x0 = .int .i64 (sure) := d0; exact of_f w' (sure) (by have h8 := HQ.out; have := HBD.out; simp only at h8; omega) })) ?_
        refine Rc (fa (fa_Tr0 g8) (Od.lit 8)) ?_
        refine Rc (lvC 0 B8' ld_i (Od.lc 3 68)) ?_
        refine Rc (fa (fa_Tr1 g8) (Od.lit 8)) ?_
        refine Rc (lvC 1 B8' ld_i (Od.lc 5 70)) ?_
        refine Rc (bn (r := .int .i64 (sure + opn)) (Od.loc 4 69) (Od.loc 6 71) (hr := fun w => by have hx9 := HA1.out; go_simp)) ?_
        refine Rc (fa (fa_Nd5 w.heap.size) (Od.lit 4)) ?_
        refine Rc (lvC 6 S.b4 ld_i (Od.lc 8 73)) ?_
        refine Rc (bn (r := .int .i64 (sure + opn + hi)) (Od.loc 7 72) (Od.loc 9 74) (hr := fun w => by have hx9 := HA2.out; go_simp)) ?_
        refine Rc (bn (r := .int .i64 (sure + opn + hi + 1)) (Od.loc 10 75) Od.con (hr := fun w => by have hx9 := HA3.out; go_simp)) ?_
        refine Rc (fa (fa_Tr4 g8) (Od.lit 8)) ?_
        refine Rc (lvC 4 B8' ld_i (Od.lc 12 77)) ?_
        refine Rc (bn (r := .int .i64 (sure + opn + hi + 1 - next)) (Od.loc 11 76) (Od.loc 13 78) (hr := fun w => by have hx9 := HA4.out; go_simp)) ?_
        refine Rc (cl1 (en Tryz.func110) (Od.lc (Φ := IsV (.int .i64 (sure + opn + hi + 1 - next))) 14 79) (fun x0 w' hE d0 => by { obtain rfl : x0 = .int .i64 (sure + opn + hi + 1 - next) := d0; exact of_f w' (sure + opn + hi + 1 - next) (by have h8 := HQ.out; have := HBD.out; simp only at h8; omega) })) ?_
        refine Rc (fa (fa_Tr5 g8) (Od.lit 8)) ?_
        refine Rc (lvC 5 B8' ld_b (Od.lc 16 81)) ?_
        refine Rc (bkf (k1 := 2) (Od.loc 2 67) (Od.loc 15 80) (Od.loc 17 82) bd_Kn3) ?_
        exact RgAll.nil
      intro v X5 e1 hΦ _
      replace S := S.ext hJ hh e1
      obtain ⟨s5, a5, n5, c5, s6, a6, n6, c6, hv, g1, g2⟩ := hΦ 18 (by decide)
      simp only [layL, Act.put, uAx, u0x, u1x, Nat.reduceAdd]
      rw [hv]
      clear hv hΦ e1 B8'
      replace g1 := g1.mono (show 2 ≤ 128 by decide)
      replace g2 := g2.mono (show 2 ≤ 128 by decide)
      refine stA 19 (h := fun K hK => ?_)
      refine stVO (us := [.bool s5, .slice a5 n5 c5, .bool s6, .slice a6 n6 c6, .bool fq]) S.b6 st_Kn rfl rfl nw5 (fun X9 B9 O => hK _ _ ?_)
      obtain ⟨f1, f2, f3⟩ := S.last hJ hh O
      replace g1 := IsI.gstb _ _ _ _ _ O.gr g1
      replace g2 := IsI.gstb _ _ _ _ _ O.gr g2
      refine wpAny_done (by kernel_rfl) ?_ _
      have d0 := B9.c 0 _ rfl; have d1 := B9.c 1 _ rfl; have d2 := B9.c 2 _ rfl; have d3 := B9.c 3 _ rfl; have d4 := B9.c 4 _ rfl
      clear hK K O B9 S
      go_wp2_with fail
      exact bodyPost_ret (v := .agg #[.bool s5, .slice a5 n5 c5, .bool s6, .slice a6 n6 c6, .bool fq]) (by simp [results, Tryz.results84, go_sem, d0, d1, d2, d3, d4]) rfl ⟨f1, f2, f3, _, rfl, _, _, _, _, _, _, _, _, rfl, g1, g2⟩
  · obtain ⟨hR, hMA, hJA, h⟩ := h
    obtain ⟨res, st2⟩ := rr
    cases res with
    | ok q => cases h
    | error nn =>
      cases h
      exact ⟨rfl, S.rm.trans hR, hMA, hJA, rfl⟩
  · obtain ⟨hR, hMA, hJA, h⟩ := h
    obtain ⟨res, st2⟩ := rr
    cases res with
    | ok q => cases h
    | error nn => cases h

set_option maxRecDepth 100000 in
set_option maxHeartbeats 8000000 in
theorem eval_first {σ : Type} {m : Mc} {J : σ → World → Prop} {w : World} {st : Mst σ} {x : ByteArray} {kk lo hi : Int} {s : Bool} {a : Option Addr} {n c : Nat} {g o mm cp : Nat} {ve : Value} {rr : Res Tr × Mst σ} (hJ : MapInv m.h J) (hh : m.h + 3 ≤ w.heap.size) (hM : MAt m st.1 w) (hj : J st.2 w) (HC : ∀ w', Rm m.h w w' → MAt m st.1 w' → J st.2 w' → w.heap.size ≤ w'.heap.size → Calls Tryz.prog 113 #[.pointer (some ⟨m.h + 2, 0, none⟩), .agg #[.int .i64 10, .string x, .int .i64 kk, .bool s, .slice a n c, .int .i64 lo, .int .i64 hi, .slice (some ⟨g, o, none⟩) mm cp], ve] w' (SrP m J w' rr)) (HBD : Hid (-1099511627776 ≤ lo ∧ lo ≤ hi + 1 ∧ hi ≤ 1099511627776)) (HT : Hid (∀ t st', rr = (.ok t, st') → lo ≤ t.next ∧ t.next ≤ hi + 1 ∧ 0 ≤ t.sure ∧ 0 ≤ t.opn ∧ t.sure + t.opn ≤ t.next - lo + 1 ∧ lo ≤ t.first ∧ t.first ≤ hi + 1 ∧ lo ≤ t.last ∧ t.last ≤ hi + 1)) :
    Calls Tryz.prog 84 #[.pointer (some ⟨m.h + 2, 0, none⟩), .agg #[.int .i64 10, .string x, .int .i64 kk, .bool s, .slice a n c, .int .i64 lo, .int .i64 hi, .slice (some ⟨g, o, none⟩) mm cp], ve] w (EvP m J w (lpR true hi rr)) := by
  obtain ⟨W, hW, S⟩ : ∃ W, W = (w.alloc (.cells #[.int .i64 10, .string x, .int .i64 kk, .bool s, .slice a n c, .int .i64 lo, .int .i64 hi, .slice (some ⟨g, o, none⟩) mm cp] 31)).alloc (.cells #[.bool false, .slice none 0 0, .bool false, .slice none 0 0, .bool false] 176) ∧ EIv m J w [.int .i64 10, .string x, .int .i64 kk, .bool s, .slice a n c, .int .i64 lo, .int .i64 hi, .slice (some ⟨g, o, none⟩) mm cp] st W := ⟨_, rfl, EIv.start hJ hh hM hj _ _ _⟩
  have hs0 := S.sz
  go_enter Tryz.func84, Tryz.ntmps84
  go_upto_region 1 with (fail)
  rw [← hW]
  clear hW
  have d0 := S.b4.c 0 _ rfl
  go_upto_region 17 with (fail)
  clear d0
  have hld : LdV Tryz.prog 31 8 := fun w' g' vs' hl B => ld_Nd hl (fun j v hj => by rw [Nat.zero_add]; exact B.c j v hj)
  refine rgs 3 [some 86, some 87, some 88] [IsV (.pointer (some ⟨m.h + 2, 0, none⟩)), IsV (.agg #[.int .i64 10, .string x, .int .i64 kk, .bool s, .slice a n c, .int .i64 lo, .int .i64 hi, .slice (some ⟨g, o, none⟩) mm cp]), IsV ve] [] ?_ ?_ (hst := by repeat' (first | exact trivial | exact IsV.stb _ | apply IsIf.stb | exact IsI.stb _ _ | exact IsKn.stb _ _ _ _ | exact IsNb.stb _ _ | apply And.intro))
  · refine Rc (mv (Od.lit 0)) ?_
    refine Rc (lvV S.b4 hld (Od.lit 4)) ?_
    refine Rc (mv (Od.lit 2)) ?_
    exact RgAll.nil
  intro v X1 e1 hΦ _
  replace S := S.ext hJ hh e1
  simp only [layL, Act.put, uAx, u0x, u1x, Nat.reduceAdd]
  rw [show v 0 = .pointer (some ⟨m.h + 2, 0, none⟩) from hΦ 0 (by decide), show v 1 = .agg #[.int .i64 10, .string x, .int .i64 kk, .bool s, .slice a n c, .int .i64 lo, .int .i64 hi, .slice (some ⟨g, o, none⟩) mm cp] from hΦ 1 (by decide), show v 2 = ve from hΦ 2 (by decide)]
  clear hΦ e1
  refine stL (fun K hK => ?_)
  refine wp_callN (us := [.pointer (some ⟨m.h + 2, 0, none⟩), .agg #[.int .i64 10, .string x, .int .i64 kk, .bool s, .slice a n c, .int .i64 lo, .int .i64 hi, .slice (some ⟨g, o, none⟩) mm cp], ve]) (en Tryz.func113) (by kernel_rfl) (HC _ S.rm S.mat S.j S.rm.size) (fun v2 X2 h => hK _ _ ?_) (fun ch X2 h => ?_) (fun X2 h => ?_)
  · obtain ⟨hR, hMA, hJA, h⟩ := h
    obtain ⟨res, st2⟩ := rr
    cases res with
    | error nn => cases h
    | ok q =>
      cases h
      have HQ := hid (HT.out q st2 rfl)
      obtain ⟨sure, opn, first, last, next, fq⟩ := q
      replace S := S.call hh hR hMA hJA
      clear hK K hR hMA hJA
      have hs2 := S.sz
      go_simp
      refine stL (fun K hK => ?_)
      refine wp_alB (vs := [.int .i64 0, .int .i64 0, .int .i64 0, .int .i64 0, .int .i64 0, .bool false]) al_Tr (fun B8 e1 => hK _ _ ?_)
      replace S := S.ext hJ hh e1
      obtain ⟨g8, hg8⟩ : ∃ g, X2.heap.size = g := ⟨_, rfl⟩
      rw [hg8] at B8 hs2 ⊢
      generalize X2.alloc (.cells [Value.int .i64 0, .int .i64 0, .int .i64 0, .int .i64 0, .int .i64 0, .bool false].toArray 205) = X3 at S B8 ⊢
      clear hK K e1 hg8
      go_simp
      refine stL (fun K hK => ?_)
      refine stVO (us := [.int .i64 sure, .int .i64 opn, .int .i64 first, .int .i64 last, .int .i64 next, .bool fq]) B8 st_Tr rfl rfl nwT (fun X4 B8' O => hK _ _ ?_)
      replace S := S.only hJ hh O hs2
      clear B8 hK K O
      refine wpList_nil ?_
      go_upto_region 18 with (fail)
      refine rg 9 [some 90, some 91, some 92, some 93, some 94, some 95, some 96, some 97, some 98] [IsV (.pointer (some ⟨g8, 2, none⟩)), IsV (.int .i64 (first)), IsI 2 first, IsV (.pointer (some ⟨g8, 3, none⟩)), IsV (.int .i64 (last)), IsI 2 last, IsV (.pointer (some ⟨g8, 5, none⟩)), IsV (.bool fq), IsKn 2 first last fq] [] 1 ?_ ?_ (hst := by repeat' (first | exact trivial | exact IsV.stb _ | apply IsIf.stb | exact IsI.stb _ _ | exact IsKn.stb _ _ _ _ | exact IsNb.stb _ _ | apply And.intro))
      · refine Rc (fa (fa_Tr2 g8) (Od.lit 9)) ?_
        refine Rc (lvC 2 B8' ld_i (Od.lc 0 90)) ?_
        refine Rc (cl1 (en Tryz.func110) (Od.lc (Φ := IsV (.int .i64 (first))) 1 91) (fun x0 w' hE d0 => by { obtain rfl : x0 = .int .i64 (first) := d0; exact of_f w' (first) (by have h8 := HQ.out; have := HBD.out; simp only at h8; omega) })) ?_
        refine Rc (fa (fa_Tr3 g8) (Od.lit 9)) ?_
        refine Rc (lvC 3 B8' ld_i (Od.lc 3 93)) ?_
        refine Rc (cl1 (en Tryz.func110) (Od.lc (Φ := IsV (.int .i64 (last))) 4 94) (fun x0 w' hE d0 => by { obtain rfl : x0 = .int .i64 (last) := d0; exact of_f w' (last) (by have h8 := HQ.out; have := HBD.out; simp only at h8; omega) })) ?_
        refine Rc (fa (fa_Tr5 g8) (Od.lit 9)) ?_
        refine Rc (lvC 5 B8' ld_b (Od.lc 6 96)) ?_
        refine Rc (bkf (k1 := 2) (Od.loc 2 92) (Od.loc 5 95) (Od.loc 7 97) bd_Kn3) ?_
        exact RgAll.nil
      intro v X5 e1 hΦ _
      replace S := S.ext hJ hh e1
      obtain ⟨s5, a5, n5, c5, s6, a6, n6, c6, hv, g1, g2⟩ := hΦ 8 (by decide)
      simp only [layL, Act.put, uAx, u0x, u1x, Nat.reduceAdd]
      rw [hv]
      clear hv hΦ e1 B8'
      replace g1 := g1.mono (show 2 ≤ 128 by decide)
      replace g2 := g2.mono (show 2 ≤ 128 by decide)
      refine stA 9 (h := fun K hK => ?_)
      refine stVO (us := [.bool s5, .slice a5 n5 c5, .bool s6, .slice a6 n6 c6, .bool fq]) S.b6 st_Kn rfl rfl nw5 (fun X9 B9 O => hK _ _ ?_)
      obtain ⟨f1, f2, f3⟩ := S.last hJ hh O
      replace g1 := IsI.gstb _ _ _ _ _ O.gr g1
      replace g2 := IsI.gstb _ _ _ _ _ O.gr g2
      refine wpAny_done (by kernel_rfl) ?_ _
      have d0 := B9.c 0 _ rfl; have d1 := B9.c 1 _ rfl; have d2 := B9.c 2 _ rfl; have d3 := B9.c 3 _ rfl; have d4 := B9.c 4 _ rfl
      clear hK K O B9 S
      go_wp2_with fail
      exact bodyPost_ret (v := .agg #[.bool s5, .slice a5 n5 c5, .bool s6, .slice a6 n6 c6, .bool fq]) (by simp [results, Tryz.results84, go_sem, d0, d1, d2, d3, d4]) rfl ⟨f1, f2, f3, _, rfl, _, _, _, _, _, _, _, _, rfl, g1, g2⟩
  · obtain ⟨hR, hMA, hJA, h⟩ := h
    obtain ⟨res, st2⟩ := rr
    cases res with
    | ok q => cases h
    | error nn =>
      cases h
      exact ⟨rfl, S.rm.trans hR, hMA, hJA, rfl⟩
  · obtain ⟨hR, hMA, hJA, h⟩ := h
    obtain ⟨res, st2⟩ := rr
    cases res with
    | ok q => cases h
    | error nn => cases h
end Go.Proofs.YtkeikfekkdplgaaGreatDoor
