/-
  Package eval: all operations as one table; eval at an operation; eval at every expression. (Printed by wip/gen/ev10.py.)
-/
import Derived.Test.YtkeikfekkdplgaaGreatDoorEv9
namespace Go.Proofs.YtkeikfekkdplgaaGreatDoor
open Go Go.RowKit
def opsT : List (Int × FuncId) := [(4, 138), (5, 141), (6, 143), (7, 146), (8, 147), (12, 148), (13, 151)]
def opsC : List Value := [.int .i64 4, .func (.func 138) #[] #[], .int .i64 5, .func (.func 141) #[] #[], .int .i64 6, .func (.func 143) #[] #[], .int .i64 7, .func (.func 146) #[] #[], .int .i64 8, .func (.func 147) #[] #[], .int .i64 12, .func (.func 148) #[] #[], .int .i64 13, .func (.func 151) #[] #[]]
def IsOps (B : Nat) : Value → World → Prop := fun x w => ∃ g, x = .slice (some ⟨g, 0, none⟩) 7 7 ∧ B ≤ g ∧ Bk w g opsC
theorem IsOps.stb (B : Nat) : Stb (IsOps B) := fun _ _ _ e ⟨g, h1, h2, h3⟩ => ⟨g, h1, h2, h3.ext e⟩
set_option maxRecDepth 100000 in
theorem operations_f (w : World) (B : Nat) (hB : B ≤ w.heap.size) : Calls Tryz.prog 114 #[] w (Ret w (IsOps B)) := by
  go_enter Tryz.func114, Tryz.ntmps114
  go_wp2_with fail
  go_ret
  exact ⟨_, rfl, (Ext.refl _).alloc _, _, rfl, hB, Bk.new w _ _⟩
theorem opsT_at : ∀ {j : Nat} {op : Int} {f : FuncId}, opsT[j]? = some (op, f) → j < 7 ∧ opsC[2 * j]? = some (.int .i64 op) ∧ opsC[2 * j + 1]? = some (.func (.func f) #[] #[])
  | 0, _, _, h => by obtain ⟨rfl, rfl⟩ : (4 : Int) = _ ∧ (138 : FuncId) = _ := by simpa [opsT] using h
                     exact ⟨by decide, rfl, rfl⟩
  | 1, _, _, h => by obtain ⟨rfl, rfl⟩ : (5 : Int) = _ ∧ (141 : FuncId) = _ := by simpa [opsT] using h
                     exact ⟨by decide, rfl, rfl⟩
  | 2, _, _, h => by obtain ⟨rfl, rfl⟩ : (6 : Int) = _ ∧ (143 : FuncId) = _ := by simpa [opsT] using h
                     exact ⟨by decide, rfl, rfl⟩
  | 3, _, _, h => by obtain ⟨rfl, rfl⟩ : (7 : Int) = _ ∧ (146 : FuncId) = _ := by simpa [opsT] using h
                     exact ⟨by decide, rfl, rfl⟩
  | 4, _, _, h => by obtain ⟨rfl, rfl⟩ : (8 : Int) = _ ∧ (147 : FuncId) = _ := by simpa [opsT] using h
                     exact ⟨by decide, rfl, rfl⟩
  | 5, _, _, h => by obtain ⟨rfl, rfl⟩ : (12 : Int) = _ ∧ (148 : FuncId) = _ := by simpa [opsT] using h
                     exact ⟨by decide, rfl, rfl⟩
  | 6, _, _, h => by obtain ⟨rfl, rfl⟩ : (13 : Int) = _ ∧ (151 : FuncId) = _ := by simpa [opsT] using h
                     exact ⟨by decide, rfl, rfl⟩
  | j + 7, _, _, h => by simp [opsT] at h
theorem opsT_inj {j k : Nat} {op : Int} {f f' : FuncId} (h : opsT[j]? = some (op, f)) (h' : opsT[k]? = some (op, f')) : j = k := by
  have h1 := (opsT_at h).1; have h2 := (opsT_at h').1
  have : ∀ j k : Fin 7, (opsT[j.1]?).map (·.1) = (opsT[k.1]?).map (·.1) → j = k := by decide
  have := this ⟨j, h1⟩ ⟨k, h2⟩ (by rw [h, h']; rfl)
  simpa using this
theorem opsT_of {op : Int} (h : op = 4 ∨ op = 5 ∨ op = 6 ∨ op = 7 ∨ op = 8 ∨ op = 12 ∨ op = 13) : ∃ (j : Nat) (f : FuncId), opsT[j]? = some (op, f) := by
  rcases h with rfl | rfl | rfl | rfl | rfl | rfl | rfl
  · exact ⟨0, _, rfl⟩
  · exact ⟨1, _, rfl⟩
  · exact ⟨2, _, rfl⟩
  · exact ⟨3, _, rfl⟩
  · exact ⟨4, _, rfl⟩
  · exact ⟨5, _, rfl⟩
  · exact ⟨6, _, rfl⟩
theorem opsT_en {j : Nat} {op : Int} {f : FuncId} (h : opsT[j]? = some (op, f)) : ∀ args w, (callFunc f args).run Tryz.prog w = .ok (.enter f args) w := by
  have h1 := (opsT_at h).1
  match j, h1, h with
  | 0, _, h => obtain ⟨rfl, rfl⟩ : (4 : Int) = _ ∧ (138 : FuncId) = _ := by simpa [opsT] using h
               exact en Tryz.func138
  | 1, _, h => obtain ⟨rfl, rfl⟩ : (5 : Int) = _ ∧ (141 : FuncId) = _ := by simpa [opsT] using h
               exact en Tryz.func141
  | 2, _, h => obtain ⟨rfl, rfl⟩ : (6 : Int) = _ ∧ (143 : FuncId) = _ := by simpa [opsT] using h
               exact en Tryz.func143
  | 3, _, h => obtain ⟨rfl, rfl⟩ : (7 : Int) = _ ∧ (146 : FuncId) = _ := by simpa [opsT] using h
               exact en Tryz.func146
  | 4, _, h => obtain ⟨rfl, rfl⟩ : (8 : Int) = _ ∧ (147 : FuncId) = _ := by simpa [opsT] using h
               exact en Tryz.func147
  | 5, _, h => obtain ⟨rfl, rfl⟩ : (12 : Int) = _ ∧ (148 : FuncId) = _ := by simpa [opsT] using h
               exact en Tryz.func148
  | 6, _, h => obtain ⟨rfl, rfl⟩ : (13 : Int) = _ ∧ (151 : FuncId) = _ := by simpa [opsT] using h
               exact en Tryz.func151
theorem cmpI_neg (a b : Int) : decide (cmpI a b < 0) = decide (a < b) := by
  unfold cmpI
  by_cases h : a < b
  · simp [h]
  · by_cases h2 : b < a <;> simp [h, h2]
theorem cmpI_nn (a b : Int) : decide (0 ≤ cmpI a b) = decide (b ≤ a) := by
  unfold cmpI
  by_cases h : a < b
  · have : ¬ b ≤ a := by omega
    simp [h, this]
  · have h1 : b ≤ a := by omega
    by_cases h2 : b < a <;> simp [h, h1, h2]
theorem cmpI_zero (a b : Int) : (cmpI a b == 0) = decide (a = b) := by
  unfold cmpI
  by_cases h : a < b
  · have : ¬ a = b := by omega
    simp [h, this]
  · by_cases h2 : b < a
    · have : ¬ a = b := by omega
      simp [h, h2, this]
    · have : a = b := by omega
      simp [this]
theorem cmpI_z {a b : Int} : cmpI a b = 0 ↔ a = b := by
  have := cmpI_zero a b
  constructor
  · intro h; rw [h] at this; simpa using this.symm
  · intro h; simpa [h] using this
theorem OpP.of {w : World} {k : Nat} {q : Kn} {e : Ending} {w' : World} (h : Ret w (IsK k q) e w') (hk : k ≤ 128) : OpP w (.ok q) e w' := let ⟨v, h1, h2, h3⟩ := h; ⟨h2, v, h1, h3.mono hk⟩
theorem shortP {k : Nat} {u v : Int} {w : World} {P : FuncId} {args : Array Value}
    (hy : ∀ m1 m2 r : Int, Hid (((bitLen u.natAbs : Nat) : Int) = m1) → Hid (((bitLen v.natAbs : Nat) : Int) = m2) → Hid ((if m2 > m1 then m2 else m1) = r) → Hid (¬ r > 4096) → Calls Tryz.prog P args w (Ret w (IsKn k u v false)))
    (hn : ∀ m1 m2 r : Int, Hid (((bitLen u.natAbs : Nat) : Int) = m1) → Hid (((bitLen v.natAbs : Nat) : Int) = m2) → Hid ((if m2 > m1 then m2 else m1) = r) → Hid (r > 4096) → Calls Tryz.prog P args w (fun e w' => e = .panicked (pan 2) ∧ Ext w w')) : Calls Tryz.prog P args w (OpP w (shortV ⟨u, v, false⟩)) := by
  by_cases hb : 4096 < max (bitLen u.natAbs) (bitLen v.natAbs)
  · rw [shortV, if_pos hb]
    exact Calls.mono (hn _ _ _ (hid rfl) (hid rfl) (hid rfl) (hid (by split <;> omega))) fun e w' h => ⟨h.2, h.1⟩
  · rw [shortV, if_neg hb]
    exact Calls.mono (hy _ _ _ (hid rfl) (hid rfl) (hid rfl) (hid (by split <;> omega))) fun e w' h => let ⟨v, h1, h2, h3⟩ := h; ⟨h2, v, h1, h3.tight (bitLen_lt (by omega)) (bitLen_lt (by omega))⟩
theorem op_all {j : Nat} {op : Int} {f : FuncId} (h : opsT[j]? = some (op, f)) {p q : Kn} {x y : Value} {w : World} (hx : IsK 128 p x w) (hy : IsK 128 q y w) : Calls Tryz.prog f #[x, y] w (OpP w (opV op p q)) := by
  obtain ⟨l1, u1, f1⟩ := p
  obtain ⟨l2, u2, f2⟩ := q
  have hK : Hid (128 ≤ 1000) := hid (by decide)
  have h1 := (opsT_at h).1
  match j, h1, h with
  | 0, _, h => obtain ⟨rfl, rfl⟩ : (4 : Int) = _ ∧ (138 : FuncId) = _ := by simpa [opsT] using h
               rw [show opV 4 ⟨l1, u1, f1⟩ ⟨l2, u2, f2⟩ = shortV ⟨l1 + l2, u1 + u2, false⟩ from rfl]
               exact shortP (fun m1 m2 r a b c d => opA_y hx hy hK (hid rfl) (hid rfl) a b c d) (fun m1 m2 r a b c d => opA_n hx hy hK (hid rfl) (hid rfl) a b c d)
  | 1, _, h => obtain ⟨rfl, rfl⟩ : (5 : Int) = _ ∧ (141 : FuncId) = _ := by simpa [opsT] using h
               rw [show opV 5 ⟨l1, u1, f1⟩ ⟨l2, u2, f2⟩ = shortV ⟨l1 - u2, u1 - l2, false⟩ from rfl]
               exact shortP (fun m1 m2 r a b c d => opS_y hx hy hK (hid rfl) (hid rfl) a b c d) (fun m1 m2 r a b c d => opS_n hx hy hK (hid rfl) (hid rfl) a b c d)
  | 2, _, h => obtain ⟨rfl, rfl⟩ : (6 : Int) = _ ∧ (143 : FuncId) = _ := by simpa [opsT] using h
               exact opM_f hx hy hK
  | 3, _, h => obtain ⟨rfl, rfl⟩ : (7 : Int) = _ ∧ (146 : FuncId) = _ := by simpa [opsT] using h
               exact Calls.mono (opL_f hx hy hK) fun e w' h => OpP.of (q := ⟨min l1 l2, min u1 u2, false⟩) h (by decide)
  | 4, _, h => obtain ⟨rfl, rfl⟩ : (8 : Int) = _ ∧ (147 : FuncId) = _ := by simpa [opsT] using h
               exact Calls.mono (opG_f hx hy hK) fun e w' h => OpP.of (q := ⟨max l1 l2, max u1 u2, false⟩) h (by decide)
  | 5, _, h => obtain ⟨rfl, rfl⟩ : (12 : Int) = _ ∧ (148 : FuncId) = _ := by simpa [opsT] using h
               rw [show opV 12 ⟨l1, u1, f1⟩ ⟨l2, u2, f2⟩ = .ok (truthV (decide (u1 < l2)) (decide (u2 ≤ l1))) from rfl, ← cmpI_neg, ← cmpI_nn]
               exact Calls.mono (opLess_f hx hy hK (hid rfl) (hid rfl) (hid rfl) (hid rfl)) fun e w' h => OpP.of h (by decide)
  | 6, _, h => obtain ⟨rfl, rfl⟩ : (13 : Int) = _ ∧ (151 : FuncId) = _ := by simpa [opsT] using h
               rw [show opV 13 ⟨l1, u1, f1⟩ ⟨l2, u2, f2⟩ = .ok (truthV (decide (l1 = u2) && decide (l2 = u1)) (decide (u1 < l2) || decide (u2 < l1))) from rfl]
               by_cases c1 : u1 < l2
               · have d1 : decide (cmpI u1 l2 < 0) = true := by rw [cmpI_neg]; exact decide_eq_true c1
                 rw [decide_eq_true c1, Bool.true_or]
                 by_cases c3 : l1 = u2
                 · rw [decide_eq_true c3, Bool.true_and, ← cmpI_zero]
                   exact Calls.mono (opEq_tt (b2 := true) (c2' := 0) hx hy hK (hid rfl) (hid d1) (hid rfl) (hid (cmpI_z.2 c3)) (hid rfl) (hid rfl)) fun e w' h => OpP.of h (by decide)
                 · rw [decide_eq_false c3, Bool.false_and]
                   exact Calls.mono (opEq_tf (b2 := true) (b4 := true) (c2' := 0) (c4' := 0) hx hy hK (hid rfl) (hid d1) (hid rfl) (hid (fun hh => c3 (cmpI_z.1 hh)))) fun e w' h => OpP.of h (by decide)
               · have d1 : decide (cmpI u1 l2 < 0) = false := by rw [cmpI_neg]; exact decide_eq_false c1
                 rw [decide_eq_false c1, Bool.false_or, ← cmpI_neg u2 l1]
                 by_cases c3 : l1 = u2
                 · rw [decide_eq_true c3, Bool.true_and, ← cmpI_zero]
                   exact Calls.mono (opEq_ft hx hy hK (hid rfl) (hid d1) (hid rfl) (hid rfl) (hid rfl) (hid (cmpI_z.2 c3)) (hid rfl) (hid rfl)) fun e w' h => OpP.of h (by decide)
                 · rw [decide_eq_false c3, Bool.false_and]
                   exact Calls.mono (opEq_ff (b4 := true) (c4' := 0) hx hy hK (hid rfl) (hid d1) (hid rfl) (hid rfl) (hid rfl) (hid (fun hh => c3 (cmpI_z.1 hh)))) fun e w' h => OpP.of h (by decide)
/-- A call of a function value, at any place of a region. -/
theorem wp_callV {P : Program} {Q : Exit → Act → World → Prop} {o : Oper} {f : FuncId} {c : Call} {t : Operand} {a : Act} {w : World} {K : Act → World → Prop} {R : Ending → World → Prop} {xs : List Operand} {us : List Value} (he : ∀ args w, (callFunc f args).run P w = .ok (.enter f args) w) (ht : a.eval t = .func (.func f) #[] #[]) (hx : xs.map a.eval = us)
    (h : Calls P f us.toArray w R) (h1 : ∀ v w', R (.returned v) w' → K (a.put o.dst v) w') (h2 : ∀ ch w', R (.panicked ch) w' → Q (.panic ch) a w') (h3 : ∀ w', ¬ R .outgrown w')
    (ho : o.op = .call c := by rfl) (hc : c.callee = .value t := by rfl) (ha : c.args = xs.toArray := by rfl) : Oper.wp P o a w K Q := by
  have hr : (execOp a.eval o).run P w = .ok (.enter f (c.args.map a.eval)) w := by
    unfold execOp
    rw [ho]
    dsimp only
    unfold resolve
    rw [hc]
    simp [invoke, he, ht, Deferred.ofValue]
  unfold Oper.wp
  rw [hr, Oper.upon_enter, ha, List.map_toArray, hx]
  refine Calls.mono h ?_
  intro e w2 hR
  cases e with
  | returned v => exact h1 v w2 hR
  | panicked ch => exact h2 ch w2 hR
  | outgrown => exact absurd hR (h3 w2)
set_option maxRecDepth 100000
theorem lenOps {B : Nat} {ops : Array Oper} {Q : Exit → Act → World → Prop} {ds : List (Option Tmp)} {a0 : Act} {w0 : World} {L : List (Value → World → Prop)} {boxes : List Nat} {i : Nat} {o : Oper} {x : Operand} (hx : Od ops ds a0 w0 L i x (IsOps B)) (ho : o.op = .call { callee := .builtin .len, args := #[x], argTypes := #[207] } := by rfl) (hi : L.getD i (fun _ _ => True) = IsV (.int .i64 7) := by kernel_rfl) (hb : boxes.contains i = false := by kernel_rfl) : Ok Tryz.prog ops Q ds a0 w0 L boxes i o :=
  Ok.of hb fun v a w hE hd hf => by
    obtain ⟨g, h1, _⟩ := hx.out v a w hE hd hf
    refine ⟨_, ?_, by rw [hi]; exact rfl⟩
    unfold execOp
    rw [ho]
    dsimp only
    unfold resolve
    simp only [List.map_toArray, List.map_cons, List.map_nil, h1]
    go_simp
theorem ix_Op (g j : Nat) (h : j < 7) (w : World) : (Instr.indexAt 207 (.slice (some ⟨g, 0, none⟩) 7 7) (.int .i64 ((j : Nat) : Int))).run Tryz.prog w = .ok (.pointer (some ⟨g, 2 * j, none⟩)) w := by
  have h1 : (0 : Int) ≤ (j : Int) := by omega
  have h2 : (j : Int) < 7 := by omega
  have h3 : 0 + j * 2 = 2 * j := by omega
  have h4 : j * 2 = 2 * j := by omega
  go_simp
theorem ld_Op (g f : Nat) (w : World) (z : Int) (u : FuncId) (h0 : World.cell? w ⟨g, f, none⟩ = some (.int .i64 z)) (h1 : World.cell? w ⟨g, f + 1, none⟩ = some (.func (.func u) #[] #[])) : (Instr.loadAt 211 (.pointer (some ⟨g, f, none⟩))).run Tryz.prog w = .ok (.agg #[.int .i64 z, .func (.func u) #[] #[]]) w := by go_simp
theorem al_Op (w : World) : (Instr.alloc 211 true (.tuple #[])).run Tryz.prog w = .ok (.pointer (some ⟨w.heap.size, 0, none⟩)) (w.alloc (.cells [.int .i64 0, .nilFunc].toArray 211)) := by go_simp
theorem fa_Op0 (g : Nat) (w : World) : (Instr.fieldAt 211 (.pointer (some ⟨g, 0, none⟩)) 0).run Tryz.prog w = .ok (.pointer (some ⟨g, 0, none⟩)) w := by go_simp
theorem fa_Op1 (g : Nat) (w : World) : (Instr.fieldAt 211 (.pointer (some ⟨g, 0, none⟩)) 1).run Tryz.prog w = .ok (.pointer (some ⟨g, 1, none⟩)) w := by go_simp
theorem opsT_mem {j : Nat} {op : Int} {f : FuncId} (h : opsT[j]? = some (op, f)) : op = 4 ∨ op = 5 ∨ op = 6 ∨ op = 7 ∨ op = 8 ∨ op = 12 ∨ op = 13 := by
  have h2 : (op, f) ∈ opsT := List.mem_of_getElem? h
  simp only [opsT, List.mem_cons, Prod.mk.injEq, List.not_mem_nil, or_false] at h2
  rcases h2 with h | h | h | h | h | h | h
  · exact .inl h.1
  · exact .inr (.inl h.1)
  · exact .inr (.inr (.inl h.1))
  · exact .inr (.inr (.inr (.inl h.1)))
  · exact .inr (.inr (.inr (.inr (.inl h.1))))
  · exact .inr (.inr (.inr (.inr (.inr (.inl h.1)))))
  · exact .inr (.inr (.inr (.inr (.inr (.inr h.1)))))
def binR {σ : Type} (op : Int) (r1 r2 : Res Kn × Mst σ) : Res Kn × Mst σ :=
  match r1 with
  | (.error n, st') => (.error n, st')
  | (.ok p, _) => match r2 with
    | (.error n, st2) => (.error n, st2)
    | (.ok q, st2) => match opV op p q with
      | .error n => (.error n, st2)
      | .ok r => (.ok ⟨r.lo, r.hi, p.fin && q.fin⟩, st2)
theorem binR_ok {σ : Type} {op : Int} {p q r : Kn} {s1 s2 : Mst σ} (h : opV op p q = .ok r) : binR op (.ok p, s1) (.ok q, s2) = (.ok ⟨r.lo, r.hi, p.fin && q.fin⟩, s2) := by simp only [binR, h]
theorem binR_er {σ : Type} {op : Int} {p q : Kn} {n : Int} {s1 s2 : Mst σ} (h : opV op p q = .error n) : binR op (.ok p, s1) (.ok q, s2) = (.error n, s2) := by simp only [binR, h]
theorem ld_Fn : LdC1 Tryz.prog 209 := fun w a v h => by go_simp
theorem st_Op : StV Tryz.prog 211 2 := by
  intro w g vs us h1 h2 hs B
  match vs, h1 with
  | [v0, v1], _ =>
    match us, h2 with
    | [u0, u1], _ =>
      simp only [List.all_cons, List.all_nil, Bool.and_true, Bool.and_eq_true] at hs
      obtain ⟨s0, s1⟩ := hs
      have r0 := fun w a m => run_store Tryz.prog w a u0 m s0; have r1 := fun w a m => run_store Tryz.prog w a u1 m s1
      have c0 := B.c 0 _ rfl; have c1 := B.c 1 _ rfl
      have f0 := B.f 0; have f1 := B.f 1
      clear B s0 s1
      simp only [setL]
      go_simp
theorem nwO : ∀ v ∈ [Value.int .i64 0, .nilFunc], NoWord v := by
  intro v hv
  simp only [List.mem_cons, List.not_mem_nil, or_false] at hv
  rcases hv with rfl | rfl
  · exact NoWord.int64 _
  · exact fun x => by simp
/-- How things stand in the round over all operations. -/
structure BIv {σ : Type} (m : Mc) (J : σ → World → Prop) (w : World) (us : List Value) (st : Mst σ) (gA gB gC gD : Nat) (cA cB : List Value) (pl ph ql qh : Int) (x1 x2 x3 x4 : Value) (ro : Option Kn) (W : World) : Prop where
  s : EIv m J w us st W
  ba : Bk W gA cA
  bb : Bk W gB cB
  bd : Bk W gD opsC
  k1 : IsI 128 pl x1 W
  k2 : IsI 128 ph x2 W
  k3 : IsI 128 ql x3 W
  k4 : IsI 128 qh x4 W
  r : match ro with
    | none => Bk W gC [.bool false, .slice none 0 0, .bool false, .slice none 0 0, .bool false]
    | some r => ∃ s a n c s' a' n' c', Bk W gC [.bool s, .slice a n c, .bool s', .slice a' n' c', .bool r.fin] ∧ IsI 128 r.lo (.agg #[.bool s, .slice a n c]) W ∧ IsI 128 r.hi (.agg #[.bool s', .slice a' n' c']) W
section
variable {σ : Type} {m : Mc} {J : σ → World → Prop} {w : World} {us : List Value} {st : Mst σ} {gA gB gC gD gE : Nat} {cA cB : List Value} {pl ph ql qh : Int} {x1 x2 x3 x4 : Value} {ro : Option Kn} {W W' : World}
theorem BIv.bn (S : BIv m J w us st gA gB gC gD cA cB pl ph ql qh x1 x2 x3 x4 none W) : Bk W gC [.bool false, .slice none 0 0, .bool false, .slice none 0 0, .bool false] := S.r
theorem BIv.ext (S : BIv m J w us st gA gB gC gD cA cB pl ph ql qh x1 x2 x3 x4 ro W) (hJ : MapInv m.h J) (hh : m.h + 3 ≤ w.heap.size) (e : Ext W W') : BIv m J w us st gA gB gC gD cA cB pl ph ql qh x1 x2 x3 x4 ro W' :=
  ⟨S.s.ext hJ hh e, S.ba.ext e, S.bb.ext e, S.bd.ext e, S.k1.ext e, S.k2.ext e, S.k3.ext e, S.k4.ext e, by
    have := S.r
    cases ro with
    | none => exact Bk.ext this e
    | some r => obtain ⟨s, a, n, c, s', a', n', c', B, h1, h2⟩ := this; exact ⟨s, a, n, c, s', a', n', c', B.ext e, h1.ext e, h2.ext e⟩⟩
theorem BIv.only (S : BIv m J w us st gA gB gC gD cA cB pl ph ql qh x1 x2 x3 x4 ro W) (hJ : MapInv m.h J) (hh : m.h + 3 ≤ w.heap.size) (O : OnlyB gE W W') (hg : w.heap.size + 2 ≤ gE ∧ gA < gE ∧ gB < gE ∧ gC < gE ∧ gD < gE) : BIv m J w us st gA gB gC gD cA cB pl ph ql qh x1 x2 x3 x4 ro W' :=
  ⟨S.s.only hJ hh O hg.1, O.bk S.ba (by omega), O.bk S.bb (by omega), O.bk S.bd (by omega), IsI.gstb _ _ _ _ _ O.gr S.k1, IsI.gstb _ _ _ _ _ O.gr S.k2, IsI.gstb _ _ _ _ _ O.gr S.k3, IsI.gstb _ _ _ _ _ O.gr S.k4, by
    have := S.r
    cases ro with
    | none => exact O.bk this (by omega)
    | some r => obtain ⟨s, a, n, c, s', a', n', c', B, h1, h2⟩ := this; exact ⟨s, a, n, c, s', a', n', c', O.bk B (by omega), IsI.gstb _ _ _ _ _ O.gr h1, IsI.gstb _ _ _ _ _ O.gr h2⟩⟩
theorem BIv.put {r : Kn} {s : Bool} {a : Option Addr} {n c : Nat} {s' : Bool} {a' : Option Addr} {n' c' : Nat} (S : BIv m J w us st gA gB gC gD cA cB pl ph ql qh x1 x2 x3 x4 none W) (hJ : MapInv m.h J) (hh : m.h + 3 ≤ w.heap.size) (hg : w.heap.size + 2 ≤ gA ∧ gA < gB ∧ gB < gC ∧ gC < gD) (O : OnlyB gC W W')
    (B : Bk W' gC [.bool s, .slice a n c, .bool s', .slice a' n' c', .bool r.fin]) (h1 : IsI 128 r.lo (.agg #[.bool s, .slice a n c]) W) (h2 : IsI 128 r.hi (.agg #[.bool s', .slice a' n' c']) W) : BIv m J w us st gA gB gC gD cA cB pl ph ql qh x1 x2 x3 x4 (some r) W' :=
  ⟨S.s.only hJ hh O (by omega), O.bk S.ba (by omega), O.bk S.bb (by omega), O.bk S.bd (by omega), IsI.gstb _ _ _ _ _ O.gr S.k1, IsI.gstb _ _ _ _ _ O.gr S.k2, IsI.gstb _ _ _ _ _ O.gr S.k3, IsI.gstb _ _ _ _ _ O.gr S.k4, s, a, n, c, s', a', n', c', B, IsI.gstb _ _ _ _ _ O.gr h1, IsI.gstb _ _ _ _ _ O.gr h2⟩
end
set_option maxRecDepth 100000 in
set_option maxHeartbeats 8000000 in
theorem eval_bin {σ : Type} {m : Mc} {J : σ → World → Prop} {w : World} {st : Mst σ} {op kk lo hi : Int} {x : ByteArray} {s : Bool} {a : Option Addr} {n c : Nat} {g o mm cp : Nat} {ve : Value} {vs1 vs2 : List Value} {j0 : Nat} {f0 : FuncId} {r1 r2 : Res Kn × Mst σ} (hJ : MapInv m.h J) (hh : m.h + 3 ≤ w.heap.size) (hM : MAt m st.1 w) (hj : J st.2 w) (HM : Hid (2 ≤ mm ∧ mm ≤ 9223372036854775807 ∧ g < m.h)) (HV1 : Hid (vs1.length = 8 ∧ ∀ j v, vs1[j]? = some v → World.cell? w ⟨g, o + j, none⟩ = some v)) (HV2 : Hid (vs2.length = 8 ∧ ∀ j v, vs2[j]? = some v → World.cell? w ⟨g, o + 8 + j, none⟩ = some v)) (HOP : Hid (opsT[j0]? = some (op, f0)))
    (HC1 : Hid (∀ w', Rm m.h w w' → MAt m st.1 w' → J st.2 w' → w.heap.size ≤ w'.heap.size → Calls Tryz.prog 84 #[.pointer (some ⟨m.h + 2, 0, none⟩), .agg vs1.toArray, ve] w' (EvP m J w' r1))) (HC2 : Hid (∀ w', Rm m.h w w' → MAt m r1.2.1 w' → J r1.2.2 w' → w.heap.size ≤ w'.heap.size → Calls Tryz.prog 84 #[.pointer (some ⟨m.h + 2, 0, none⟩), .agg vs2.toArray, ve] w' (EvP m J w' r2))) :
    Calls Tryz.prog 84 #[.pointer (some ⟨m.h + 2, 0, none⟩), .agg #[.int .i64 op, .string x, .int .i64 kk, .bool s, .slice a n c, .int .i64 lo, .int .i64 hi, .slice (some ⟨g, o, none⟩) mm cp], ve] w (EvP m J w (binR op r1 r2)) := by
  obtain ⟨n1, n2, n3, n4, n5, n6⟩ : (op == 1) = false ∧ (op == 11) = false ∧ (op == 2) = false ∧ (op == 3) = false ∧ (op == 9) = false ∧ (op == 10) = false := by
    have h := opsT_mem HOP.out
    rcases h with rfl | rfl | rfl | rfl | rfl | rfl | rfl <;> decide
  obtain ⟨W, hW, S⟩ : ∃ W, W = (w.alloc (.cells #[.int .i64 op, .string x, .int .i64 kk, .bool s, .slice a n c, .int .i64 lo, .int .i64 hi, .slice (some ⟨g, o, none⟩) mm cp] 31)).alloc (.cells #[.bool false, .slice none 0 0, .bool false, .slice none 0 0, .bool false] 176) ∧ EIv m J w [.int .i64 op, .string x, .int .i64 kk, .bool s, .slice a n c, .int .i64 lo, .int .i64 hi, .slice (some ⟨g, o, none⟩) mm cp] st W := ⟨_, rfl, EIv.start hJ hh hM hj _ _ _⟩
  have hs0 := S.sz
  go_enter Tryz.func84, Tryz.ntmps84
  go_upto_region 1 with (fail)
  rw [← hW]
  clear hW
  have d0 := S.b4.c 0 _ rfl
  go_upto_region 19 with (fail)
  clear d0 n1 n2 n3 n4 n5 n6
  refine rgs 6 [some 99, some 100, some 101, some 102, some 103, some 104] [IsV (.pointer (some ⟨m.h + 2, 0, none⟩)), IsV (.pointer (some ⟨w.heap.size, 7, none⟩)), IsV (.slice (some ⟨g, o, none⟩) mm cp), IsV (.pointer (some ⟨g, o, none⟩)), IsV (.agg vs1.toArray), IsV ve] [] ?_ ?_ (hst := by repeat' (first | exact trivial | exact IsV.stb _ | apply IsIf.stb | exact IsI.stb _ _ | exact IsKn.stb _ _ _ _ | exact IsNb.stb _ _ | apply And.intro))
  · refine Rc (mv (Od.lit 0)) ?_
    refine Rc (fa (fa_Nd6 w.heap.size) (Od.lit 4)) ?_
    refine Rc (lvC 7 S.b4 ld_Nds (Od.lc 1 100)) ?_
    refine Rc (ixq (ia_Nd0 (g := g) (o := o) (n := mm) (c := cp) (by have := HM.out; omega)) (Od.lc 2 101) Od.con) ?_
    refine Rc (lv (Φ := IsV (.agg vs1.toArray)) _ (fun w' e => ld_Nd (o := o) HV1.out.1 (fun j v hj => e.cell (S.rm.cell (HV1.out.2 j v hj) (.inl HM.out.2.2)))) (Od.lc 3 102) (fun _ _ => rfl)) ?_
    refine Rc (mv (Od.lit 2)) ?_
    exact RgAll.nil
  intro v X1 e1 hΦ _
  replace S := S.ext hJ hh e1
  simp only [layL, Act.put, uAx, u0x, u1x, Nat.reduceAdd]
  rw [show v 0 = .pointer (some ⟨m.h + 2, 0, none⟩) from hΦ 0 (by decide), show v 4 = .agg vs1.toArray from hΦ 4 (by decide), show v 5 = ve from hΦ 5 (by decide)]
  clear hΦ e1
  refine stL (fun K hK => ?_)
  refine wp_callN (us := [.pointer (some ⟨m.h + 2, 0, none⟩), .agg vs1.toArray, ve]) (en Tryz.func84) (by kernel_rfl) (HC1.out _ S.rm S.mat S.j S.rm.size) (fun v2 X2 h => hK _ _ ?_) (fun ch X2 h => ?_) (fun X2 h => ?_)
  · obtain ⟨hR, hMA, hJA, h⟩ := h
    obtain ⟨res, st1⟩ := r1
    cases res with
    | error nn => cases h
    | ok p =>
      obtain ⟨_, hv, sA1, aA1, nA1, cA1, sA2, aA2, nA2, cA2, hv2, kA1, kA2⟩ := h
      cases hv
      subst hv2
      replace S := S.call hh hR hMA hJA
      obtain ⟨pl, ph, fA⟩ := p
      simp only at kA1 kA2
      clear hK K hR hMA hJA
      have hs2 := S.sz
      go_simp
      refine stL (fun K hK => ?_)
      refine wp_alB (vs := [.bool false, .slice none 0 0, .bool false, .slice none 0 0, .bool false]) al_Kn (fun BA e1 => hK _ _ ?_)
      replace S := S.ext hJ hh e1
      replace kA1 := IsI.gstb _ _ _ _ _ e1.gr kA1
      replace kA2 := IsI.gstb _ _ _ _ _ e1.gr kA2
      obtain ⟨gA, hgA⟩ : ∃ g, X2.heap.size = g := ⟨_, rfl⟩
      rw [hgA] at BA hs2 ⊢
      have hGA := BA.lt
      generalize X2.alloc (.cells [Value.bool false, .slice none 0 0, .bool false, .slice none 0 0, .bool false].toArray 176) = Y1 at S BA kA1 kA2 hGA ⊢
      clear hK K e1
      go_simp
      refine stL (fun K hK => ?_)
      refine stVO (us := [.bool sA1, .slice aA1 nA1 cA1, .bool sA2, .slice aA2 nA2 cA2, .bool fA]) BA st_Kn rfl rfl nw5 (fun Z1 BA' O => hK _ _ ?_)
      replace S := S.only hJ hh O (by omega)
      replace kA1 := IsI.gstb _ _ _ _ _ O.gr kA1
      replace kA2 := IsI.gstb _ _ _ _ _ O.gr kA2
      clear BA hK K O hgA
      have BA := BA'
      clear BA'
      have hGA := BA.lt
      refine wpList_nil ?_
      go_upto_region 20 with (fail)
      refine rgs 6 [some 106, some 107, some 108, some 109, some 110, some 111] [IsV (.pointer (some ⟨m.h + 2, 0, none⟩)), IsV (.pointer (some ⟨w.heap.size, 7, none⟩)), IsV (.slice (some ⟨g, o, none⟩) mm cp), IsV (.pointer (some ⟨g, o + 8, none⟩)), IsV (.agg vs2.toArray), IsV ve] [] ?_ ?_ (hst := by repeat' (first | exact trivial | exact IsV.stb _ | apply IsIf.stb | exact IsI.stb _ _ | exact IsKn.stb _ _ _ _ | exact IsNb.stb _ _ | apply And.intro))
      · refine Rc (mv (Od.lit 0)) ?_
        refine Rc (fa (fa_Nd6 w.heap.size) (Od.lit 4)) ?_
        refine Rc (lvC 7 S.b4 ld_Nds (Od.lc 1 107)) ?_
        refine Rc (ixq (ia_Nd1 (g := g) (o := o) (n := mm) (c := cp) (by have := HM.out; omega)) (Od.lc 2 108) Od.con) ?_
        refine Rc (lv (Φ := IsV (.agg vs2.toArray)) _ (fun w' e => ld_Nd (o := o + 8) HV2.out.1 (fun j v hj => e.cell (S.rm.cell (HV2.out.2 j v hj) (.inl HM.out.2.2)))) (Od.lc 3 109) (fun _ _ => rfl)) ?_
        refine Rc (mv (Od.lit 2)) ?_
        exact RgAll.nil
      intro v X2 e1 hΦ _
      replace S := S.ext hJ hh e1
      replace BA := BA.ext e1
      replace kA1 := IsI.gstb _ _ _ _ _ e1.gr kA1
      replace kA2 := IsI.gstb _ _ _ _ _ e1.gr kA2
      simp only [layL, Act.put, uAx, u0x, u1x, Nat.reduceAdd]
      rw [show v 0 = .pointer (some ⟨m.h + 2, 0, none⟩) from hΦ 0 (by decide), show v 4 = .agg vs2.toArray from hΦ 4 (by decide), show v 5 = ve from hΦ 5 (by decide)]
      clear hΦ e1
      refine stL (fun K hK => ?_)
      refine wp_callN (us := [.pointer (some ⟨m.h + 2, 0, none⟩), .agg vs2.toArray, ve]) (en Tryz.func84) (by kernel_rfl) (HC2.out _ S.rm S.mat S.j S.rm.size) (fun v2 X4 h => hK _ _ ?_) (fun ch X4 h => ?_) (fun X4 h => ?_)
      · obtain ⟨hR, hMA, hJA, h⟩ := h
        obtain ⟨res, st2⟩ := r2
        cases res with
        | error nn => cases h
        | ok q =>
          obtain ⟨_, hv, sB1, aB1, nB1, cB1, sB2, aB2, nB2, cB2, hv2, kB1, kB2⟩ := h
          cases hv
          subst hv2
          replace S := S.call hh hR hMA hJA
          replace BA := hR.bk BA (by omega)
          replace kA1 := IsI.gstb _ _ _ _ _ hR.gr kA1
          replace kA2 := IsI.gstb _ _ _ _ _ hR.gr kA2
          have hAl := BA.lt
          obtain ⟨ql, qh, fB⟩ := q
          simp only at kB1 kB2
          clear hK K hR hMA hJA
          have hs3 := S.sz
          go_simp
          refine stL (fun K hK => ?_)
          refine wp_alB (vs := [.bool false, .slice none 0 0, .bool false, .slice none 0 0, .bool false]) al_Kn (fun BB e1 => hK _ _ ?_)
          replace S := S.ext hJ hh e1
          replace BA := BA.ext e1
          replace kA1 := IsI.gstb _ _ _ _ _ e1.gr kA1
          replace kA2 := IsI.gstb _ _ _ _ _ e1.gr kA2
          replace kB1 := IsI.gstb _ _ _ _ _ e1.gr kB1
          replace kB2 := IsI.gstb _ _ _ _ _ e1.gr kB2
          obtain ⟨gB, hgB⟩ : ∃ g, X4.heap.size = g := ⟨_, rfl⟩
          rw [hgB] at BB hs3 hAl ⊢
          have hGB := BB.lt
          generalize X4.alloc (.cells [Value.bool false, .slice none 0 0, .bool false, .slice none 0 0, .bool false].toArray 176) = Y2 at S BB BA kA1 kA2 kB1 kB2 hGB ⊢
          clear hK K e1
          go_simp
          refine stL (fun K hK => ?_)
          refine stVO (us := [.bool sB1, .slice aB1 nB1 cB1, .bool sB2, .slice aB2 nB2 cB2, .bool fB]) BB st_Kn rfl rfl nw5 (fun Z2 BB' O => hK _ _ ?_)
          have hAB : gA < gB := hAl
          replace S := S.only hJ hh O (by omega)
          replace BA := O.bk BA (by omega)
          replace kA1 := IsI.gstb _ _ _ _ _ O.gr kA1
          replace kA2 := IsI.gstb _ _ _ _ _ O.gr kA2
          replace kB1 := IsI.gstb _ _ _ _ _ O.gr kB1
          replace kB2 := IsI.gstb _ _ _ _ _ O.gr kB2
          clear BB hK K O hgB
          have BB := BB'
          clear BB'
          have hGB := BB.lt
          refine wpList_nil ?_
          go_upto_region 21 with (fail)
          have hs4 := S.sz
          refine rgs 1 [some 12] [IsNb Z2.heap.size [.bool false, .slice none 0 0, .bool false, .slice none 0 0, .bool false]] [] ?_ ?_ (hst := by repeat' (first | exact trivial | exact IsV.stb _ | apply IsIf.stb | exact IsI.stb _ _ | exact IsKn.stb _ _ _ _ | exact IsNb.stb _ _ | apply And.intro))
          · refine Rc (alB al_Kn (Nat.le_refl _)) ?_
            exact RgAll.nil
          intro v X21 e1 hΦ _
          replace S := S.ext hJ hh e1
          replace BA := BA.ext e1
          replace BB := BB.ext e1
          replace kA1 := IsI.gstb _ _ _ _ _ e1.gr kA1
          replace kA2 := IsI.gstb _ _ _ _ _ e1.gr kA2
          replace kB1 := IsI.gstb _ _ _ _ _ e1.gr kB1
          replace kB2 := IsI.gstb _ _ _ _ _ e1.gr kB2
          obtain ⟨gC, hv0, hgC, BC⟩ := hΦ 0 (by decide)
          simp only [layL, Act.put, uAx, u0x, u1x]
          rw [hv0]
          clear hv0 hΦ
          have he1 := e1.size
          clear e1
          have hGC := BC.lt
          refine wpList_nil ?_
          go_upto_region 22 with (fail)
          refine rgs 3 [some 113, some 114, some 115] [IsOps X21.heap.size, IsV (.int .i64 7), IsV (.int .i64 0)] [] ?_ ?_ (hst := by repeat' (first | exact trivial | exact IsV.stb _ | exact IsOps.stb _ | apply IsIf.stb | exact IsI.stb _ _ | exact IsKn.stb _ _ _ _ | exact IsNb.stb _ _ | apply And.intro))
          · refine Rc (cl0 (en Tryz.func114) (fun w' hE => operations_f w' _ hE.size)) ?_
            refine Rc (lenOps (Od.lc (Φ := IsOps X21.heap.size) 0 113)) ?_
            refine Rc (mv Od.con) ?_
            exact RgAll.nil
          intro v X22 e1 hΦ _
          replace S := S.ext hJ hh e1
          replace BA := BA.ext e1
          replace BB := BB.ext e1
          replace BC := BC.ext e1
          replace kA1 := IsI.gstb _ _ _ _ _ e1.gr kA1
          replace kA2 := IsI.gstb _ _ _ _ _ e1.gr kA2
          replace kB1 := IsI.gstb _ _ _ _ _ e1.gr kB1
          replace kB2 := IsI.gstb _ _ _ _ _ e1.gr kB2
          obtain ⟨gD, hv0, hgD, BD⟩ := hΦ 0 (by decide)
          simp only [layL, Act.put, uAx, u0x, u1x, Nat.reduceAdd]
          rw [hv0, show v 1 = .int .i64 7 from hΦ 1 (by decide), show v 2 = .int .i64 0 from hΦ 2 (by decide)]
          clear hv0 hΦ e1
          have hGD := BD.lt
          refine wpList_nil ?_
          have HGG := hid (show w.heap.size + 2 ≤ gA ∧ gA < gB ∧ gB < gC ∧ gC < gD by omega)
          clear hs0 hs2 hs3 hs4 hGA hGB hGC hGD hgC hgD he1 hAB
          go_wp2_with fail
          have F0 : BIv m J w [.int .i64 op, .string x, .int .i64 kk, .bool s, .slice a n c, .int .i64 lo, .int .i64 hi, .slice (some ⟨g, o, none⟩) mm cp] st2 gA gB gC gD [.bool sA1, .slice aA1 nA1 cA1, .bool sA2, .slice aA2 nA2 cA2, .bool fA] [.bool sB1, .slice aB1 nB1 cB1, .bool sB2, .slice aB2 nB2 cB2, .bool fB] pl ph ql qh (.agg #[.bool sA1, .slice aA1 nA1 cA1]) (.agg #[.bool sA2, .slice aA2 nA2 cA2]) (.agg #[.bool sB1, .slice aB1 nB1 cB1]) (.agg #[.bool sB2, .slice aB2 nB2 cB2]) none X22 := ⟨S, BA, BB, BD, kA1, kA2, kB1, kB2, BC⟩
          have F0 := hid F0
          clear S BA BB BC BD kA1 kA2 kB1 kB2
          go_loopg [115] 8 (fun gk v7 wr => ∃ (j : Nat) (ro : Option Kn), v7 = .int .i64 ((j : Nat) : Int) ∧ j + gk = 8 ∧ j ≤ 7 ∧ Hid ((j ≤ j0 → ro = none) ∧ (j0 < j → ∃ r, ro = some r ∧ opV op ⟨pl, ph, fA⟩ ⟨ql, qh, fB⟩ = .ok r)) ∧ Hid (BIv m J w [.int .i64 op, .string x, .int .i64 kk, .bool s, .slice a n c, .int .i64 lo, .int .i64 hi, .slice (some ⟨g, o, none⟩) mm cp] st2 gA gB gC gD [.bool sA1, .slice aA1 nA1 cA1, .bool sA2, .slice aA2 nA2 cA2, .bool fA] [.bool sB1, .slice aB1 nB1 cB1, .bool sB2, .slice aB2 nB2 cB2, .bool fB] pl ph ql qh (.agg #[.bool sA1, .slice aA1 nA1 cA1]) (.agg #[.bool sA2, .slice aA2 nA2 cA2]) (.agg #[.bool sB1, .slice aB1 nB1 cB1]) (.agg #[.bool sB2, .slice aB2 nB2 cB2]) ro wr))
          case atStart => exact ⟨0, none, rfl, by omega, by omega, hid ⟨fun _ => rfl, fun h => by omega⟩, F0⟩
          case round =>
            clear F0
            obtain ⟨j, ro, rfl, hg, hj7, hro, S⟩ := hrel
            have S := S.out
            have HRO := hid hro.out
            have HG := hid (And.intro hg hj7)
            clear hro
            have hj0 : j0 < 7 := (opsT_at HOP.out).1
            by_cases hlt : j < 7
            · have HLT := hid hlt
              have HLI := hid (show ((j : Nat) : Int) < 7 by omega)
              have HI1 := hid (show IntKind.i64.wrap (((j : Nat) : Int) + 1) = ((j : Nat) : Int) + 1 by simp only [IntKind.wrap_i64]; omega)
              obtain ⟨opj, fj, hoj⟩ : ∃ (opj : Int) (fj : FuncId), opsT[j]? = some (opj, fj) := by
                have : ∃ p, opsT[j]? = some p := ⟨_, List.getElem?_eq_getElem (by simpa [opsT] using hlt)⟩
                obtain ⟨⟨a, b⟩, h⟩ := this
                exact ⟨a, b, h⟩
              have HOJ := hid hoj
              obtain ⟨bq, hbq⟩ : ∃ b, (opj == op) = b := ⟨_, rfl⟩
              have HBQ := hid hbq
              clear hg hj7 hlt hoj hj0 hbq
              go_upto_region 23 with (fail)
              refine rgs 1 [some 116] [IsV (.bool true)] [] ?_ ?_
              · refine Rc (bn (r := .bool true) (Od.lit (x := .int .i64 ((j : Nat) : Int)) 115) (Od.lit (x := .int .i64 7) 114) (hr := fun w => by have hx9 := HLT.out; have hx8 := HLI.out; go_simp)) ?_
                exact RgAll.nil
              intro v V1 e1 hΦ _
              replace S := S.ext hJ hh e1
              simp only [layL, Act.put, uAx, u0x, u1x]
              rw [show v 0 = .bool true from hΦ 0 (by decide)]
              clear hΦ e1
              refine wpList_nil ?_
              go_upto_region 24 with (fail)
              have hsz := S.s.sz
              have hszz := S.bd.lt
              refine rgs 3 [some 117, some 118, some 14] [IsV (.pointer (some ⟨gD, 2 * j, none⟩)), IsV (.agg #[.int .i64 opj, .func (.func fj) #[] #[]]), IsNb V1.heap.size [.int .i64 0, .nilFunc]] [] ?_ ?_ (hst := by repeat' (first | exact trivial | exact IsV.stb _ | apply IsIf.stb | exact IsI.stb _ _ | exact IsKn.stb _ _ _ _ | exact IsNb.stb _ _ | apply And.intro))
              · refine Rc (ixq (ix_Op gD j HLT.out) (Od.lit 113) (Od.lit (x := .int .i64 ((j : Nat) : Int)) 115)) ?_
                refine Rc (lv (Φ := IsV (.agg #[.int .i64 opj, .func (.func fj) #[] #[]])) _ (fun w' e => ld_Op gD (2 * j) w' opj fj ((S.bd.ext e).c _ _ (opsT_at HOJ.out).2.1) ((S.bd.ext e).c _ _ (opsT_at HOJ.out).2.2)) (Od.lc 0 117) (fun _ _ => rfl)) ?_
                refine Rc (alB al_Op (Nat.le_refl _)) ?_
                exact RgAll.nil
              intro v V2 e1 hΦ _
              replace S := S.ext hJ hh e1
              obtain ⟨gE, hv2, hgE, BE⟩ := hΦ 2 (by decide)
              simp only [layL, Act.put, uAx, u0x, u1x, Nat.reduceAdd]
              rw [hv2, show v 1 = .agg #[.int .i64 opj, .func (.func fj) #[] #[]] from hΦ 1 (by decide)]
              clear hv2 hΦ e1
              refine stL (fun K hK => ?_)
              refine stVO (us := [.int .i64 opj, .func (.func fj) #[] #[]]) BE st_Op rfl rfl nwO (fun V3 BE' O => hK _ _ ?_)
              replace S := S.only hJ hh O (by have := HGG.out; omega)
              clear BE hK K O
              refine wpList_nil ?_
              go_upto_region 25 with (fail)
              refine rgs 5 [some 119, some 120, some 121, some 122, some 123] [IsV (.pointer (some ⟨gE, 0, none⟩)), IsV (.int .i64 opj), IsV (.pointer (some ⟨w.heap.size, 0, none⟩)), IsV (.int .i64 op), IsV (.bool bq)] [] ?_ ?_ (hst := by repeat' (first | exact trivial | exact IsV.stb _ | apply IsIf.stb | exact IsI.stb _ _ | exact IsKn.stb _ _ _ _ | exact IsNb.stb _ _ | apply And.intro))
              · refine Rc (fa (fa_Op0 gE) (Od.lit 14)) ?_
                refine Rc (lvC 0 BE' ld_i (Od.lc 0 119)) ?_
                refine Rc (fa (fa_Nd0 w.heap.size) (Od.lit 4)) ?_
                refine Rc (lvC 0 S.s.b4 ld_i (Od.lc 2 121)) ?_
                refine Rc (bn (r := .bool bq) (Od.loc 1 120) (Od.loc 3 122) (hr := fun w => by have hx9 := HBQ.out; go_simp)) ?_
                exact RgAll.nil
              intro v V4 e1 hΦ _
              replace S := S.ext hJ hh e1
              replace BE' := BE'.ext e1
              simp only [layL, Act.put, uAx, u0x, u1x, Nat.reduceAdd]
              rw [show v 4 = .bool bq from hΦ 4 (by decide)]
              clear hΦ e1
              refine wpList_nil ?_
              cases bq with
              | true =>
                obtain rfl : op = opj := by have := HBQ.out; simp at this; exact this.symm
                obtain rfl : j = j0 := opsT_inj HOJ.out HOP.out
                obtain rfl : fj = f0 := by have := HOJ.out.symm.trans HOP.out; simpa using this
                obtain rfl : ro = none := HRO.out.1 (Nat.le_refl _)
                go_upto_region 26 with (fail)
                refine rgs 4 [some 124, some 125, some 126, some 127] [IsV (.pointer (some ⟨gE, 1, none⟩)), IsV (.func (.func fj) #[] #[]), IsV (.agg #[.bool sA1, .slice aA1 nA1 cA1, .bool sA2, .slice aA2 nA2 cA2, .bool fA]), IsV (.agg #[.bool sB1, .slice aB1 nB1 cB1, .bool sB2, .slice aB2 nB2 cB2, .bool fB])] [] ?_ ?_ (hst := by repeat' (first | exact trivial | exact IsV.stb _ | apply IsIf.stb | exact IsI.stb _ _ | exact IsKn.stb _ _ _ _ | exact IsNb.stb _ _ | apply And.intro))
                · refine Rc (fa (fa_Op1 gE) (Od.lit 14)) ?_
                  refine Rc (lvC 1 BE' ld_Fn (Od.lc 0 124)) ?_
                  refine Rc (lvV S.ba ld_Kn (Od.lit 10)) ?_
                  refine Rc (lvV S.bb ld_Kn (Od.lit 11)) ?_
                  exact RgAll.nil
                intro v V5 e1 hΦ _
                replace S := S.ext hJ hh e1
                simp only [layL, Act.put, uAx, u0x, u1x, Nat.reduceAdd]
                rw [show v 1 = .func (.func fj) #[] #[] from hΦ 1 (by decide), show v 2 = .agg #[.bool sA1, .slice aA1 nA1 cA1, .bool sA2, .slice aA2 nA2 cA2, .bool fA] from hΦ 2 (by decide), show v 3 = .agg #[.bool sB1, .slice aB1 nB1 cB1, .bool sB2, .slice aB2 nB2 cB2, .bool fB] from hΦ 3 (by decide)]
                clear hΦ e1
                have hcl := op_all (w := V5) HOJ.out (p := ⟨pl, ph, fA⟩) (q := ⟨ql, qh, fB⟩) ⟨_, _, _, _, _, _, _, _, rfl, S.k1, S.k2⟩ ⟨_, _, _, _, _, _, _, _, rfl, S.k3, S.k4⟩
                obtain ⟨rv, hrv⟩ : ∃ r, opV op ⟨pl, ph, fA⟩ ⟨ql, qh, fB⟩ = r := ⟨_, rfl⟩
                rw [hrv] at hcl
                refine stL (fun K hK => ?_)
                refine wp_callV (us := [.agg #[.bool sA1, .slice aA1 nA1 cA1, .bool sA2, .slice aA2 nA2 cA2, .bool fA], .agg #[.bool sB1, .slice aB1 nB1 cB1, .bool sB2, .slice aB2 nB2 cB2, .bool fB]]) (opsT_en HOJ.out) (by kernel_rfl) (by kernel_rfl) hcl (fun v2 V6 h => hK _ _ ?_) (fun ch V6 h => ?_) (fun V6 h => ?_)
                · obtain ⟨e2, h⟩ := h
                  cases rv with
                  | error nn => cases h
                  | ok r =>
                    obtain ⟨_, hv, s7, a7, n7, c7, s8, a8, n8, c8, hv2, g1, g2⟩ := h
                    cases hv
                    subst hv2
                    replace S := S.ext hJ hh e2
                    clear hK K hcl
                    go_simp
                    refine stL (fun K hK => ?_)
                    refine stVO (us := [.bool s7, .slice a7 n7 c7, .bool s8, .slice a8 n8 c8, .bool r.fin]) S.bn st_Kn rfl rfl nw5 (fun V7 BC' O => hK _ _ ?_)
                    replace S := S.put hJ hh HGG.out O BC' g1 g2
                    clear BC' hK K O g1 g2
                    refine wpList_nil ?_
                    go_upto_region 27 with (fail)
                    refine rgs 1 [some 129] [IsV (.int .i64 (((j : Nat) : Int) + 1))] [] ?_ ?_ (hst := by repeat' (first | exact trivial | exact IsV.stb _ | apply IsIf.stb | exact IsI.stb _ _ | exact IsKn.stb _ _ _ _ | exact IsNb.stb _ _ | apply And.intro))
                    · refine Rc (bn (r := .int .i64 (((j : Nat) : Int) + 1)) (Od.lit (x := .int .i64 ((j : Nat) : Int)) 115) Od.con (hr := fun w => by have hx9 := HI1.out; go_simp)) ?_
                      exact RgAll.nil
                    intro v V8 e1 hΦ _
                    replace S := S.ext hJ hh e1
                    simp only [layL, Act.put, uAx, u0x, u1x]
                    rw [show v 0 = .int .i64 (((j : Nat) : Int) + 1) from hΦ 0 (by decide)]
                    clear hΦ e1
                    refine wpList_step fun K hK => ?_; go_simp; refine hK _ _ ?_; clear hK K
                    refine wpList_nil ?_
                    have S' := hid S; clear S BE'
                    go_wp2_with fail
                    go_roundg (gk - 1)
                    case measure => have := HG.out; have := HLT.out; omega
                    case rel => exact ⟨j + 1, some r, by rw [Int.natCast_add]; rfl, by have := HG.out; omega, by have := HLT.out; omega, hid ⟨fun h => by omega, fun _ => ⟨r, rfl, hrv⟩⟩, S'⟩
                · obtain ⟨e2, h⟩ := h
                  cases rv with
                  | ok r => obtain ⟨_, hv, _⟩ := h; cases hv
                  | error nn =>
                    cases h
                    replace S := S.ext hJ hh e2
                    exact ⟨rfl, (show EvP m J w (binR op (.ok ⟨pl, ph, fA⟩, st1) (.ok ⟨ql, qh, fB⟩, st2)) _ _ from by { rw [binR_er hrv]; exact ⟨S.s.rm, S.s.mat, S.s.j, rfl⟩ })⟩
                · obtain ⟨e2, h⟩ := h
                  cases rv with
                  | ok r => obtain ⟨_, hv, _⟩ := h; cases hv
                  | error nn => cases h
              | false =>
                have hne : j ≠ j0 := by
                  intro he
                  subst he
                  have := HOJ.out.symm.trans HOP.out
                  have h2 : opj = op := by simp at this; exact this.1
                  have h3 := HBQ.out
                  simp [h2] at h3
                go_upto_region 27 with (fail)
                refine rgs 1 [some 129] [IsV (.int .i64 (((j : Nat) : Int) + 1))] [] ?_ ?_ (hst := by repeat' (first | exact trivial | exact IsV.stb _ | apply IsIf.stb | exact IsI.stb _ _ | exact IsKn.stb _ _ _ _ | exact IsNb.stb _ _ | apply And.intro))
                · refine Rc (bn (r := .int .i64 (((j : Nat) : Int) + 1)) (Od.lit (x := .int .i64 ((j : Nat) : Int)) 115) Od.con (hr := fun w => by have hx9 := HI1.out; go_simp)) ?_
                  exact RgAll.nil
                intro v V5 e1 hΦ _
                replace S := S.ext hJ hh e1
                simp only [layL, Act.put, uAx, u0x, u1x]
                rw [show v 0 = .int .i64 (((j : Nat) : Int) + 1) from hΦ 0 (by decide)]
                clear hΦ e1
                refine wpList_step fun K hK => ?_; go_simp; refine hK _ _ ?_; clear hK K
                refine wpList_nil ?_
                have S' := hid S; clear S BE'
                go_wp2_with fail
                go_roundg (gk - 1)
                case measure => have := HG.out; have := HLT.out; omega
                case rel => exact ⟨j + 1, ro, by rw [Int.natCast_add]; rfl, by have := HG.out; have := HLT.out; omega, by have := HLT.out; omega, hid ⟨fun h => HRO.out.1 (by omega), fun h => HRO.out.2 (by omega)⟩, S'⟩
            · obtain rfl : j = 7 := by omega
              obtain ⟨r, rfl, hr⟩ := HRO.out.2 hj0
              clear hg hj7 hlt hj0
              go_upto_region 23 with (fail)
              refine rgs 1 [some 116] [IsV (.bool false)] [] ?_ ?_
              · refine Rc (bn (r := .bool false) (Od.lit (x := .int .i64 ((7 : Nat) : Int)) 115) (Od.lit (x := .int .i64 7) 114) (hr := fun w => by go_simp)) ?_
                exact RgAll.nil
              intro v V1 e1 hΦ _
              replace S := S.ext hJ hh e1
              simp only [layL, Act.put, uAx, u0x, u1x]
              rw [show v 0 = .bool false from hΦ 0 (by decide)]
              clear hΦ e1
              refine wpList_nil ?_
              go_upto_region 28 with (fail)
              obtain ⟨S, BA, BB, BD, kA1, kA2, kB1, kB2, s7, a7, n7, c7, s8, a8, n8, c8, BC, g1, g2⟩ := S
              clear BD kA1 kA2 kB1 kB2
              obtain ⟨fR, hfR⟩ : ∃ f, (fA && fB) = f := ⟨_, rfl⟩
              have HFR := hid hfR
              refine rgs 7 [some 130, some 131, some 132, some 133, some 134, some 135, some 136] [IsV (.pointer (some ⟨gA, 4, none⟩)), IsV (.bool fA), IsV (.bool fA), IsIf fA (IsV (.pointer (some ⟨gB, 4, none⟩))), IsIf fA (IsV (.bool fB)), IsV (.bool fR), IsV (.pointer (some ⟨gC, 4, none⟩))] [] ?_ ?_ (hst := by repeat' (first | exact trivial | exact IsV.stb _ | apply IsIf.stb | exact IsI.stb _ _ | exact IsKn.stb _ _ _ _ | exact IsNb.stb _ _ | apply And.intro))
              · refine Rc (fa (fa_Kn2 gA 0) (Od.lit 10)) ?_
                refine Rc (lvC 4 BA ld_b (Od.lc 0 130)) ?_
                refine Rc (mv (Od.lc 1 131)) ?_
                refine RcB 2 132 fA true (fun hb => by subst hb; exact fa (fa_Kn2 gB 0) (Od.lit 11)) ?_
                refine RcB 2 132 fA true (fun hb => by subst hb; exact lvC 4 BB ld_b (Od.lc 3 133)) ?_
                refine Rc (pkA (b2 := fB) (Od.loc 2 132) (fun hb => by subst hb; exact Od.lc 4 134) HFR.out) ?_
                refine Rc (fa (fa_Kn2 gC 0) (Od.lit 12)) ?_
                exact RgAll.nil
              intro v V2 e1 hΦ _
              replace S := S.ext hJ hh e1
              replace BC := BC.ext e1
              replace g1 := IsI.gstb _ _ _ _ _ e1.gr g1
              replace g2 := IsI.gstb _ _ _ _ _ e1.gr g2
              simp only [layL, Act.put, uAx, u0x, u1x, Nat.reduceAdd]
              rw [show v 5 = .bool fR from hΦ 5 (by decide), show v 6 = .pointer (some ⟨gC, 4, none⟩) from hΦ 6 (by decide)]
              clear hΦ e1 BA BB
              refine stL (fun K hK => ?_)
              refine stCO 4 BC (st_b fR) rfl (NoWord.bool _) (fun V3 BC' O => hK _ _ ?_)
              replace S := S.only hJ hh O (by have := HGG.out; omega)
              replace g1 := IsI.gstb _ _ _ _ _ O.gr g1
              replace g2 := IsI.gstb _ _ _ _ _ O.gr g2
              simp only [u0x, u1x] at BC'
              clear BC hK K O
              refine wpList_nil ?_
              go_upto_region 29 with (fail)
              refine rgs 1 [some 137] [IsV (.agg #[.bool s7, .slice a7 n7 c7, .bool s8, .slice a8 n8 c8, .bool fR])] [] ?_ ?_ (hst := by repeat' (first | exact trivial | exact IsV.stb _ | apply IsIf.stb | exact IsI.stb _ _ | exact IsKn.stb _ _ _ _ | exact IsNb.stb _ _ | apply And.intro))
              · refine Rc (lvV BC' ld_Kn (Od.lit 12)) ?_
                exact RgAll.nil
              intro v V4 e1 hΦ _
              replace S := S.ext hJ hh e1
              replace g1 := IsI.gstb _ _ _ _ _ e1.gr g1
              replace g2 := IsI.gstb _ _ _ _ _ e1.gr g2
              simp only [layL, Act.put, uAx, u0x, u1x]
              rw [show v 0 = _ from hΦ 0 (by decide)]
              clear hΦ e1 BC'
              refine stL (fun K hK => ?_)
              refine stVO (us := [.bool s7, .slice a7 n7 c7, .bool s8, .slice a8 n8 c8, .bool fR]) S.b6 st_Kn rfl rfl nw5 (fun X9 B9 O => hK _ _ ?_)
              obtain ⟨f1, f2, f3⟩ := S.last hJ hh O
              replace g1 := IsI.gstb _ _ _ _ _ O.gr g1
              replace g2 := IsI.gstb _ _ _ _ _ O.gr g2
              refine wpList_nil ?_
              have d0 := B9.c 0 _ rfl; have d1 := B9.c 1 _ rfl; have d2 := B9.c 2 _ rfl; have d3 := B9.c 3 _ rfl; have d4 := B9.c 4 _ rfl
              clear hK K O B9 S
              go_wp2_with fail
              exact bodyPost_ret (v := .agg #[.bool s7, .slice a7 n7 c7, .bool s8, .slice a8 n8 c8, .bool fR]) (by simp [results, Tryz.results84, go_sem, d0, d1, d2, d3, d4]) rfl (show EvP m J w (binR op (.ok ⟨pl, ph, fA⟩, st1) (.ok ⟨ql, qh, fB⟩, st2)) _ _ from by { rw [binR_ok hr, hfR]; exact ⟨f1, f2, f3, _, rfl, _, _, _, _, _, _, _, _, rfl, g1, g2⟩ })
      · obtain ⟨hR, hMA, hJA, h⟩ := h
        obtain ⟨res, st2⟩ := r2
        cases res with
        | ok q => obtain ⟨_, hv, _⟩ := h; cases hv
        | error nn =>
          cases h
          exact ⟨rfl, S.rm.trans hR, hMA, hJA, rfl⟩
      · obtain ⟨hR, hMA, hJA, h⟩ := h
        obtain ⟨res, st2⟩ := r2
        cases res with
        | ok q => obtain ⟨_, hv, _⟩ := h; cases hv
        | error nn => cases h
  · obtain ⟨hR, hMA, hJA, h⟩ := h
    obtain ⟨res, st1⟩ := r1
    cases res with
    | ok q => obtain ⟨_, hv, _⟩ := h; cases hv
    | error nn =>
      cases h
      exact ⟨rfl, S.rm.trans hR, hMA, hJA, rfl⟩
  · obtain ⟨hR, hMA, hJA, h⟩ := h
    obtain ⟨res, st1⟩ := r1
    cases res with
    | ok q => obtain ⟨_, hv, _⟩ := h; cases hv
    | error nn => cases h

/-- eval at every expression. -/
theorem eval_f {σ : Type} (M : Mem σ) (m : Mc) (J : σ → World → Prop) (hJ : MapInv m.h J) (C : ByteArray → Prop) (V : ByteArray → Int → Env → Prop)
    (HCL : ∀ (x : ByteArray) (st : Mst σ) (w : World), C x → MAt m st.1 w → J st.2 w → m.h + 3 ≤ w.heap.size → Calls Tryz.prog 111 #[.pointer (some ⟨m.h + 2, 0, none⟩), .string x] w (EvP m J w ((M.cl x st.2).1, (st.1, (M.cl x st.2).2))))
    (HVL : ∀ (x : ByteArray) (n : Int) (env : Env) (ve : Value) (st : Mst σ) (w : World), V x n env → IsEnv m.h env ve w → MAt m st.1 w → J st.2 w → m.h + 3 ≤ w.heap.size → Calls Tryz.prog 112 #[.pointer (some ⟨m.h + 2, 0, none⟩), .string x, .int .i64 n, ve] w (EvP m J w ((M.vl x n env st.2).1, (st.1, (M.vl x n env st.2).2)))) :
    ∀ (e : Ex) (env : Env) (us : List Value) (ve : Value) (st : Mst σ) (w : World), wfE C V e env → IsNd m.h e us w → IsEnv m.h env ve w → MAt m st.1 w → J st.2 w → m.h + 3 ≤ w.heap.size →
      Calls Tryz.prog 84 #[.pointer (some ⟨m.h + 2, 0, none⟩), .agg us.toArray, ve] w (EvP m J w (ev M e env st))
  | .num z, env, us, ve, st, w, hw, hn, hE, hM, hj, hh => by
    obtain ⟨nm, k, s, a, n, c, lo, hi, A, rfl, hz⟩ := hn
    exact eval_num hJ hh hM hj hz
  | .var x, env, us, ve, st, w, hw, hn, hE, hM, hj, hh => by
    obtain ⟨k, s, a, n, c, lo, hi, A, rfl⟩ := hn
    exact eval_var hJ hh hM hj hE hw.1 hw.2
  | .cell x, env, us, ve, st, w, hw, hn, hE, hM, hj, hh => by
    obtain ⟨k, s, a, n, c, lo, hi, A, rfl⟩ := hn
    exact eval_cell hJ hh hM hj (fun w' hR hM' hj' hs => HCL x st w' hw hM' hj' (Nat.le_trans hh hs))
  | .val x j, env, us, ve, st, w, hw, hn, hE, hM, hj, hh => by
    obtain ⟨s, a, n, c, lo, hi, A, rfl⟩ := hn
    exact eval_val hJ hh hM hj (fun w' hR hM' hj' hs => HVL x j env ve st w' hw (hE.rm hR) hM' hj' (Nat.le_trans hh hs))
  | .loop fst x lo hi b, env, us, ve, st, w, hw, hn, hE, hM, hj, hh => by
    obtain ⟨k, s, a, n, c, g, o, mm, cp, rfl, h1, h2, h3, vs, h4, h5, h6⟩ := hn
    obtain ⟨q1, q2, q3, q4, q5⟩ := hw
    have HBD := hid (And.intro q2 (And.intro q3 q4))
    have key : ∀ (opc : Int), Hid ((opc == 10) = fst) → ∀ w', Rm m.h w w' → MAt m st.1 w' → J st.2 w' → w.heap.size ≤ w'.heap.size →
        Calls Tryz.prog 113 #[.pointer (some ⟨m.h + 2, 0, none⟩), .agg #[.int .i64 opc, .string x, .int .i64 k, .bool s, .slice a n c, .int .i64 lo, .int .i64 hi, .slice (some ⟨g, o, none⟩) mm cp], ve] w' (SrP m J w' (srch (fun n st => ev M b (env ++ [(x, n)]) st) fst hi (hi + 1 - lo).toNat ⟨0, 0, hi + 1, hi + 1, lo, true⟩ st)) := by
      intro opc ho w' hR hM' hj' hs
      have hh' := Nat.le_trans hh hs
      exact search_f M m J hJ fst x lo hi b env opc k s a n c g o mm cp vs st ve w' _ ho HBD (hid q1) (hid ⟨h1, h2, h3⟩) (hid ⟨h4, fun j v hjv => hR.cell (h5 j v hjv) (.inl h3), IsNd.rm hR h6⟩) (hid (hE.rm hR))
        (hid fun nx st2 ve2 w2 g1 g2 g3 g4 g5 g6 g7 => eval_f M m J hJ C V HCL HVL b (env ++ [(x, nx)]) vs ve2 st2 w2 (q5 nx g1 g2) g4 g3 g5 g6 g7) hM' hj' hh' (hid rfl)
    have hT : ∀ t st', srch (fun n st => ev M b (env ++ [(x, n)]) st) fst hi (hi + 1 - lo).toNat ⟨0, 0, hi + 1, hi + 1, lo, true⟩ st = (.ok t, st') → lo ≤ t.next ∧ t.next ≤ hi + 1 ∧ 0 ≤ t.sure ∧ 0 ≤ t.opn ∧ t.sure + t.opn ≤ t.next - lo + 1 ∧ lo ≤ t.first ∧ t.first ≤ hi + 1 ∧ lo ≤ t.last ∧ t.last ≤ hi + 1 :=
      fun t st' h => srch_bd _ fst lo hi t st' _ _ _ (by simp only; omega) h
    have e : lpR fst hi (srch (fun n st => ev M b (env ++ [(x, n)]) st) fst hi (hi + 1 - lo).toNat ⟨0, 0, hi + 1, hi + 1, lo, true⟩ st) = ev M (.loop fst x lo hi b) env st := by rw [ev]; rfl
    rw [← e]
    cases fst with
    | true => exact eval_first hJ hh hM hj (key 10 (hid (by decide))) HBD (hid hT)
    | false => exact eval_count hJ hh hM hj (key 9 (hid (by decide))) HBD (hid hT)
  | .bin op p q, env, us, ve, st, w, hw, hn, hE, hM, hj, hh => by
    obtain ⟨x, k, s, a, n, c, lo, hi, g, o, mm, cp, rfl, h1, h2, h3, ⟨vs, h4, h5, h6⟩, vs', h4', h5', h6'⟩ := hn
    obtain ⟨q1, q2, q3⟩ := hw
    obtain ⟨j0, f0, hop⟩ := opsT_of q1
    have e : binR op (ev M p env st) (ev M q env (ev M p env st).2) = ev M (.bin op p q) env st := by
      rw [ev]
      unfold binR
      rcases ev M p env st with ⟨_ | p', st1⟩
      · rfl
      · dsimp only
        rcases ev M q env st1 with ⟨_ | q', st2⟩ <;> rfl
    rw [← e]
    exact eval_bin (r1 := ev M p env st) (r2 := ev M q env (ev M p env st).2) hJ hh hM hj (hid ⟨h1, h2, h3⟩) (hid ⟨h4, h5⟩) (hid ⟨h4', h5'⟩) (hid hop)
      (hid fun w' hR hM' hj' hs => eval_f M m J hJ C V HCL HVL p env vs ve st w' q2 (IsNd.rm hR h6) (hE.rm hR) hM' hj' (Nat.le_trans hh hs))
      (hid fun w' hR hM' hj' hs => eval_f M m J hJ C V HCL HVL q env vs' ve _ w' q3 (IsNd.rm hR h6') (hE.rm hR) hM' hj' (Nat.le_trans hh hs))
end Go.Proofs.YtkeikfekkdplgaaGreatDoor
