/-
 Package eval: the product of two known intervals; all operations. (Printed by wip/gen/ev8.py.)
-/
import Derived.Test.YtkeikfekkdplgaaGreatDoorEv6
import Derived.Test.YtkeikfekkdplgaaGreatDoorRgx
namespace Go.Proofs.YtkeikfekkdplgaaGreatDoor
open Go Go.RowKit

/-- The heap has grown, and none but block g may have been written. -/
structure Ob (g : Nat) (w w' : World) : Prop where
 os : w'.os = w.os
 tape : w'.tape = w.tape
 output : w'.output = w.output
 size : w.heap.size ≤ w'.heap.size
 block : ∀ k, k < w.heap.size → k ≠ g → w'.heap[k]? = w.heap[k]?
 gr : Gr w w'
theorem Ob.trans {g : Nat} {a b c : World} (x : Ob g a b) (y : Ob g b c) : Ob g a c :=
 ⟨y.os.trans x.os, y.tape.trans x.tape, y.output.trans x.output, Nat.le_trans x.size y.size, fun k hk hg => (y.block k (Nat.lt_of_lt_of_le hk x.size) hg).trans (x.block k hk hg), x.gr.trans y.gr⟩
theorem Ob.of {g : Nat} {a b : World} (e : Ext a b) : Ob g a b := ⟨e.os, e.tape, e.output, e.size, fun k hk _ => e.block k hk, e.gr⟩
theorem Ob.only {g : Nat} {a b : World} (e : OnlyB g a b) : Ob g a b := ⟨e.os, e.tape, e.output, by rw [e.size]; exact Nat.le_refl _, fun k _ hg => e.block k hg, e.gr⟩
theorem Ob.ext {g : Nat} {w0 w w' : World} (h : Ob g w w') (e : Ext w0 w) (hg : w0.heap.size ≤ g) : Ext w0 w' :=
 ⟨h.os.trans e.os, h.tape.trans e.tape, h.output.trans e.output, Nat.le_trans e.size h.size, fun k hk => (h.block k (Nat.lt_of_lt_of_le hk e.size) (by omega)).trans (e.block k hk)⟩
theorem Ob.bk {g g' : Nat} {w w' : World} {vs : List Value} (h : Ob g w w') (B : Bk w g' vs) (hg : g' ≠ g) : Bk w' g' vs := by
 have hb := h.block g' B.lt hg
 exact ⟨fun j v hj => (World.cell?_of_block (w := w) (a := ⟨g', j, none⟩) hb).trans (B.c j v hj), fun j => (World.frozen?_of_block (w := w) (a := ⟨g', j, none⟩) hb).trans (B.f j), Nat.lt_of_lt_of_le B.lt h.size⟩
theorem Ob.bo {g g' i n c : Nat} {s : Bool} {a : Option Addr} {w w' : World} (h : Ob g w w') (B : Bo w g' i s a n c) (hg : g' ≠ g) : Bo w' g' i s a n c := by
 have hb := h.block g' B.lt hg
 exact ⟨(World.cell?_of_block (w := w) (a := ⟨g', _, none⟩) hb).trans B.c0, (World.cell?_of_block (w := w) (a := ⟨g', _, none⟩) hb).trans B.c1, (World.frozen?_of_block (w := w) (a := ⟨g', _, none⟩) hb).trans B.f0, (World.frozen?_of_block (w := w) (a := ⟨g', _, none⟩) hb).trans B.f1⟩
/-- A known interval under work in block g. -/
def S6 (k : Nat) (lo hi : Int) (g : Nat) (w : World) : Prop := ∃ s a n c s' a' n' c', Bk w g [.bool s, .slice a n c, .bool s', .slice a' n' c', .bool false] ∧ IsI k lo (.agg #[.bool s, .slice a n c]) w ∧ IsI k hi (.agg #[.bool s', .slice a' n' c']) w
/-- .. its lower end is lo, or m already. -/
def K6 (k : Nat) (lo m hi : Int) (g : Nat) (w : World) : Prop := S6 k lo hi g w ∨ S6 k m hi g w
theorem S6.ext {k : Nat} {lo hi : Int} {g : Nat} {w w' : World} (h : S6 k lo hi g w) (e : Ext w w') : S6 k lo hi g w' := by
 obtain ⟨s, a, n, c, s', a', n', c', B, h1, h2⟩ := h
 exact ⟨s, a, n, c, s', a', n', c', B.ext e, h1.ext e, h2.ext e⟩
theorem S6.ob {k : Nat} {lo hi : Int} {g g' : Nat} {w w' : World} (h : S6 k lo hi g w) (e : Ob g' w w') (hg : g ≠ g') : S6 k lo hi g w' := by
 obtain ⟨s, a, n, c, s', a', n', c', B, h1, h2⟩ := h
 exact ⟨s, a, n, c, s', a', n', c', e.bk B hg, IsI.gstb _ _ _ _ _ e.gr h1, IsI.gstb _ _ _ _ _ e.gr h2⟩
structure R6 (k : Nat) (lo m hi : Int) (g : Nat) (w w' : World) : Prop where
 ob : Ob g w w'
 k6 : K6 k lo m hi g w → K6 k lo m hi g w'
 s6 : S6 k m hi g w → S6 k m hi g w'
theorem R6.trans {k : Nat} {lo m hi : Int} {g : Nat} {a b c : World} (x : R6 k lo m hi g a b) (y : R6 k lo m hi g b c) : R6 k lo m hi g a c := ⟨x.ob.trans y.ob, fun h => y.k6 (x.k6 h), fun h => y.s6 (x.s6 h)⟩
theorem R6.of {k : Nat} {lo m hi : Int} {g : Nat} {a b : World} (e : Ext a b) : R6 k lo m hi g a b := ⟨Ob.of e, fun h => h.imp (fun x => x.ext e) (fun x => x.ext e), fun h => h.ext e⟩
theorem S6.put {k : Nat} {lo hi m : Int} {g : Nat} {w : World} (h : S6 k lo hi g w) {s : Bool} {a : Option Addr} {n c : Nat} (hv : IsI k m (.agg #[.bool s, .slice a n c]) w) :
  Ob g w ((w.setCell ⟨g, 0, none⟩ (.bool s)).setCell ⟨g, 1, none⟩ (.slice a n c)) ∧ S6 k m hi g ((w.setCell ⟨g, 0, none⟩ (.bool s)).setCell ⟨g, 1, none⟩ (.slice a n c)) := by
 obtain ⟨s0, a0, n0, c0, s', a', n', c', B, _, hh⟩ := h
 obtain ⟨O1, B1⟩ := B.setO 0 (by simp) (.bool s) (NoWord.bool _)
 obtain ⟨O2, B2⟩ := B1.setO 1 (by simp) (.slice a n c) (NoWord.slice _ _ _)
 have O := (Ob.only O1).trans (Ob.only O2)
 exact ⟨O, s, a, n, c, s', a', n', c', B2, IsI.gstb _ _ _ _ _ O.gr hv, IsI.gstb _ _ _ _ _ O.gr hh⟩
theorem S6.putH {k : Nat} {lo hi m : Int} {g : Nat} {w : World} (h : S6 k lo hi g w) {s : Bool} {a : Option Addr} {n c : Nat} (hv : IsI k m (.agg #[.bool s, .slice a n c]) w) :
  Ob g w ((w.setCell ⟨g, 2, none⟩ (.bool s)).setCell ⟨g, 3, none⟩ (.slice a n c)) ∧ S6 k lo m g ((w.setCell ⟨g, 2, none⟩ (.bool s)).setCell ⟨g, 3, none⟩ (.slice a n c)) := by
 obtain ⟨s0, a0, n0, c0, s', a', n', c', B, hh, _⟩ := h
 obtain ⟨O1, B1⟩ := B.setO 2 (by simp) (.bool s) (NoWord.bool _)
 obtain ⟨O2, B2⟩ := B1.setO 3 (by simp) (.slice a n c) (NoWord.slice _ _ _)
 have O := (Ob.only O1).trans (Ob.only O2)
 exact ⟨O, s0, a0, n0, c0, s, a, n, c, B2, IsI.gstb _ _ _ _ _ O.gr hh, IsI.gstb _ _ _ _ _ O.gr hv⟩
def IsOr (k : Nat) (lo m : Int) : Value → World → Prop := fun x w => IsI k lo x w ∨ IsI k m x w
section
variable {P : Program} {ops : Array Oper} {Q : Exit → Act → World → Prop} {R : World → World → Prop} {ds : List (Option Tmp)} {a0 : Act} {w0 : World} {L : List (Value → World → Prop)} {boxes : List Nat} {i k : Nat} {o : Oper} {os : List Oper}
theorem RgLx.ofOk (hRe : ∀ {a b}, Ext a b → R a b) (h : ∀ w, R w0 w → Ok P ops Q ds a0 w L [] i o) (hg : o.guard = none := by rfl) : RgLx P ops Q R ds a0 w0 L i o :=
 RgLx.mk hg fun v a w hR hd hf K hK => (h w hR).out v a w (Ext.refl w) hd hf K (by intro x w' e hL _; exact hK.out x w' (hRe e) hL)
theorem Rx6 {k : Nat} {lo m hi : Int} {g q : Nat} {os : List Oper} (h : ∀ w, R6 k lo m hi g w0 w → Ok P ops Q ds a0 w L [] i o) (hs : RgAllx P ops Q (R6 k lo m hi g) ds a0 w0 L (i + 1) q os) (hg : o.guard = none := by rfl) : RgAllx P ops Q (R6 k lo m hi g) ds a0 w0 L i (q + 1) (o :: os) :=
 RgAllx.cons (RgLx.ofOk R6.of h hg) hs
/-- The lower end, of which one does not know whether it is written already. -/
theorem ldOr {kz g T : Nat} {lo m hi : Int} {x : Operand} (h : K6 kz lo m hi g w0) (hT : LdI P T) (hx : Od ops ds a0 w0 L i x (IsV (.pointer (some ⟨g, 0, none⟩)))) (ho : o.op = .load T x := by rfl)
  (hL : L.getD i (fun _ _ => True) = IsOr kz lo m := by kernel_rfl) (hb : boxes.contains i = false := by kernel_rfl) : Ok P ops Q ds a0 w0 L boxes i o := by
 rcases h with ⟨s, a, n, c, s', a', n', c', B, h1, h2⟩ | ⟨s, a, n, c, s', a', n', c', B, h1, h2⟩
 ·exact lv _ (fun w e => hT w g 0 s a n c ((B.ext e).c 0 _ rfl) ((B.ext e).c 1 _ rfl)) hx (fun w e => .inl (h1.ext e)) ho hL hb
 ·exact lv _ (fun w e => hT w g 0 s a n c ((B.ext e).c 0 _ rfl) ((B.ext e).c 1 _ rfl)) hx (fun w e => .inr (h1.ext e)) ho hL hb
theorem ldHi {kz g T : Nat} {lo m hi : Int} {x : Operand} (h : K6 kz lo m hi g w0) (hT : LdI P T) (hx : Od ops ds a0 w0 L i x (IsV (.pointer (some ⟨g, 2, none⟩)))) (ho : o.op = .load T x := by rfl)
  (hL : L.getD i (fun _ _ => True) = IsI kz hi := by kernel_rfl) (hb : boxes.contains i = false := by kernel_rfl) : Ok P ops Q ds a0 w0 L boxes i o := by
 rcases h with ⟨s, a, n, c, s', a', n', c', B, h1, h2⟩ | ⟨s, a, n, c, s', a', n', c', B, h1, h2⟩
 ·exact lv _ (fun w e => hT w g 2 s' a' n' c' ((B.ext e).c 2 _ rfl) ((B.ext e).c 3 _ rfl)) hx (fun w e => h2.ext e) ho hL hb
 ·exact lv _ (fun w e => hT w g 2 s' a' n' c' ((B.ext e).c 2 _ rfl) ((B.ext e).c 3 _ rfl)) hx (fun w e => h2.ext e) ho hL hb
/-- The store of the lower end. -/
theorem st6 {kz g q T : Nat} {lo m hi : Int} {x y : Operand} {os : List Oper} (hk : K6 kz lo m hi g w0) (hT : StI P T) (hx : ∀ w, Od ops ds a0 w L i x (IsV (.pointer (some ⟨g, 0, none⟩)))) (hy : ∀ w, Od ops ds a0 w L i y (IsI kz m)) (hs : RgAllx P ops Q (R6 kz lo m hi g) ds a0 w0 L (i + 1) q os) (ho : o.op = .store T x y := by rfl)
  (hL : L.getD i (fun _ _ => True) = (fun _ w => S6 kz m hi g w) := by kernel_rfl) (hg : o.guard = none := by rfl) : RgAllx P ops Q (R6 kz lo m hi g) ds a0 w0 L i (q + 1) (o :: os) := by
 refine RgAllx.cons (RgLx.mk hg fun v a w hR hdd hf K hK => ?_) hs
 have h1 : a.eval x = _ := (hx w).out v a w (Ext.refl w) hdd hf
 obtain ⟨s, b, n, c, e, hI⟩ := (hy w).out v a w (Ext.refl w) hdd hf
 have key : ∃ s0 a0 n0 c0 s' a' n' c', Bk w g [.bool s0, .slice a0 n0 c0, .bool s', .slice a' n' c', .bool false] := by
  rcases hR.k6 hk with ⟨s0, a0, n0, c0, s', a', n', c', B, _⟩ | ⟨s0, a0, n0, c0, s', a', n', c', B, _⟩
  ·exact ⟨_, _, _, _, _, _, _, _, B⟩
  ·exact ⟨_, _, _, _, _, _, _, _, B⟩
 obtain ⟨s0, a0', n0, c0, s', a', n', c', B⟩ := key
 have hput : Ob g w ((w.setCell ⟨g, 0, none⟩ (.bool s)).setCell ⟨g, 1, none⟩ (.slice b n c)) ∧ S6 kz m hi g ((w.setCell ⟨g, 0, none⟩ (.bool s)).setCell ⟨g, 1, none⟩ (.slice b n c)) := by
  rcases hR.k6 hk with h | h
  ·exact h.put ⟨_, _, _, _, rfl, hI⟩
  ·exact h.put ⟨_, _, _, _, rfl, hI⟩
 refine st_wp ho h1 e (hT w g 0 s0 a0' n0 c0 s b n c (B.c 0 _ rfl) (B.c 1 _ rfl) (B.f 0) (B.f 1)) ?_
 exact hK.out undef _ ⟨hput.1, fun _ => .inr hput.2, fun _ => hput.2⟩ (by rw [hL]; exact hput.2)
end
/-- What an operation hands back, or panics with. -/
def OpP (w : World) (r : Res Kn) : Ending → World → Prop := fun e w' => Ext w w' ∧ match r with
 | .ok q => ∃ v, e = .returned v ∧ IsK 128 q v w'
 | .error n => e = .panicked (pan n)
theorem bitLen_ltN {m N : Nat} (h : bitLen m ≤ N) : m < 2 ^ N := by
  unfold bitLen at h
  split at h
  · subst m; exact Nat.two_pow_pos _
  · rename_i h0
    exact Nat.lt_of_lt_of_le ((Nat.log2_lt h0).1 (Nat.lt_succ_self _)) (Nat.pow_le_pow_right (by decide) h)
theorem bitLen_lt {m : Nat} (h : bitLen m ≤ 4096) : m < 4294967296 ^ 128 := by
  obtain ⟨N, hN⟩ : ∃ N, N = 32 * 128 := ⟨_, rfl⟩
  have h2 := bitLen_ltN (m := m) (N := N) (by omega)
  have e : ∀ n : Nat, (4294967296 : Nat) ^ n = 2 ^ (32 * n) := fun n => by rw [Nat.pow_mul]
  rw [e, ← hN]
  exact h2
theorem short_f {k : Nat} {lo hi : Int} {f : Bool} {x : Value} {w : World} (hx : IsKn k lo hi f x w) (HK : k ≤ 268435456) : Calls Tryz.prog 139 #[x] w (OpP w (shortV ⟨lo, hi, f⟩)) := by
 by_cases hb : 4096 < max (bitLen lo.natAbs) (bitLen hi.natAbs)
 ·rw [shortV, if_pos hb]
  refine Calls.mono (short_n hx (hid HK) (hid rfl) (hid rfl) (hid rfl) (hid ?_)) fun e w' h => ⟨h.2, h.1⟩
  split <;> omega
 ·rw [shortV, if_neg hb]
  refine Calls.mono (short_y hx (hid HK) (hid rfl) (hid rfl) (hid rfl) (hid ?_)) fun e w' h => ?_
  ·split <;> omega
  ·obtain ⟨v, rfl, e, h⟩ := h
   exact ⟨e, v, rfl, h.tight (bitLen_lt (by omega)) (bitLen_lt (by omega))⟩
/-- A call with one argument, at any place of a region. -/
theorem wp_call1 {P : Program} {Q : Exit → Act → World → Prop} {o : Oper} {f : FuncId} {c : Call} {x : Operand} {u1 : Value} {a : Act} {w : World} {K : Act → World → Prop} {R : Ending → World → Prop} (he : ∀ args w, (callFunc f args).run P w = .ok (.enter f args) w) (hx : a.eval x = u1)
  (h : Calls P f #[u1] w R) (h1 : ∀ v w', R (.returned v) w' → K (a.put o.dst v) w') (h2 : ∀ ch w', R (.panicked ch) w' → Q (.panic ch) a w') (h3 : ∀ w', ¬ R .outgrown w')
  (ho : o.op = .call c := by rfl) (hc : c.callee = .value (.func f) := by rfl) (ha : c.args = #[x] := by rfl) : Oper.wp P o a w K Q := by
 have hr : (execOp a.eval o).run P w = .ok (.enter f (c.args.map a.eval)) w := by
  unfold execOp
  rw [ho]
  dsimp only
  unfold resolve
  rw [hc]
  simp [invoke, he, Deferred.ofValue, show a.eval (.func f) = .func (.func f) #[] #[] from rfl]
 unfold Oper.wp
 rw [hr, Oper.upon_enter, ha, show (#[x] : Array Operand).map a.eval = #[a.eval x] by simp, hx]
 refine Calls.mono h ?_
 intro e w2 hR
 cases e with
 | returned v => exact h1 v w2 hR
 | panicked ch => exact h2 ch w2 hR
 | outgrown => exact absurd hR (h3 w2)
/-- A row of integers that stands in memory: of at most K words each. -/
def IsLi (B0 K : Nat) (zs : List Int) : Value → World → Prop := fun x w => ∃ g, x = .slice (some ⟨g, 0, none⟩) zs.length zs.length ∧ B0 ≤ g ∧
 ∀ j z, zs[j]? = some z → ∃ s a n c, Bo w g j s a n c ∧ IsI K z (.agg #[.bool s, .slice a n c]) w
theorem IsLi.stb (B0 K : Nat) (zs : List Int) : Stb (IsLi B0 K zs) := fun _ _ _ e ⟨g, h1, h2, h3⟩ => ⟨g, h1, h2, fun j z hj => let ⟨s, a, n, c, b, k⟩ := h3 j z hj; ⟨s, a, n, c, b.ext e, k.ext e⟩⟩
section
variable {ops : Array Oper} {Q : Exit → Act → World → Prop} {ds : List (Option Tmp)} {a0 : Act} {w0 : World} {L : List (Value → World → Prop)} {boxes : List Nat} {i : Nat} {o : Oper}
theorem Bo.newI (w : World) (cs : Array Value) (T : TypeId) (i : Nat) (s : Bool) (a : Option Addr) (n c : Nat) (h0 : cs[2 * i]? = some (.bool s)) (h1 : cs[2 * i + 1]? = some (.slice a n c)) : Bo (w.alloc (.cells cs T)) w.heap.size i s a n c := ⟨by simp [h0], by simp [h1], by simp, by simp⟩
set_option maxRecDepth 100000
theorem bI3 {x1 x2 x3 : Operand} {B0 K k1 k2 k3 : Nat} {z1 z2 z3 : Int} (hx1 : Od ops ds a0 w0 L i x1 (IsI k1 z1)) (hx2 : Od ops ds a0 w0 L i x2 (IsI k2 z2)) (hx3 : Od ops ds a0 w0 L i x3 (IsI k3 z3)) (l1 : k1 ≤ K) (l2 : k2 ≤ K) (l3 : k3 ≤ K) (hB : B0 ≤ w0.heap.size)
  (ho : o.op = .buildSlice 69 3 #[(0, x1), (1, x2), (2, x3)] := by rfl) (hi : L.getD i (fun _ _ => True) = IsLi B0 K [z1, z2, z3] := by kernel_rfl) (hb : boxes.contains i = false := by kernel_rfl) : Ok Tryz.prog ops Q ds a0 w0 L boxes i o :=
 ⟨fun v a w hE hd hf K' hK => by
  obtain ⟨s1, a1, n1, c1, q1, h1⟩ := hx1.out v a w hE hd hf
  obtain ⟨s2, a2, n2, c2, q2, h2⟩ := hx2.out v a w hE hd hf
  obtain ⟨s3, a3, n3, c3, q3, h3⟩ := hx3.out v a w hE hd hf
  have hr : (Instr.buildSlice 69 3 #[(0, .agg #[.bool s1, .slice a1 n1 c1]), (1, .agg #[.bool s2, .slice a2 n2 c2]), (2, .agg #[.bool s3, .slice a3 n3 c3])]).run Tryz.prog w = .ok (.slice (some ⟨w.heap.size, 0, none⟩) 3 3) (w.alloc (.cells #[.bool s1, .slice a1 n1 c1, .bool s2, .slice a2 n2 c2, .bool s3, .slice a3 n3 c3] 28)) := by go_simp
  have hrun : (execOp a.eval o).run Tryz.prog w = .ok (.value (.slice (some ⟨w.heap.size, 0, none⟩) 3 3)) (w.alloc (.cells #[.bool s1, .slice a1 n1 c1, .bool s2, .slice a2 n2 c2, .bool s3, .slice a3 n3 c3] 28)) := by
   unfold execOp
   rw [ho]
   dsimp only
   simp only [List.map_toArray, List.map_cons, List.map_nil]
   rw [q1, q2, q3]
   simp [hr]
  unfold Oper.wp
  rw [hrun]
  have e9 : Ext w (w.alloc (.cells #[.bool s1, .slice a1 n1 c1, .bool s2, .slice a2 n2 c2, .bool s3, .slice a3 n3 c3] 28)) := (Ext.refl _).alloc _
  refine hK.out _ _ e9 ?_ (FreshIf.no hb)
  rw [hi]
  refine ⟨_, rfl, Nat.le_trans hB hE.size, fun j q hq => ?_⟩
  rcases j with _ | _ | _ | j
  ·obtain rfl : z1 = q := by simpa using hq
   exact ⟨_, _, _, _, Bo.newI _ _ _ _ _ _ _ _ rfl rfl, (IsI.ext ⟨_, _, _, _, rfl, h1.mono l1⟩ e9)⟩
  ·obtain rfl : z2 = q := by simpa using hq
   exact ⟨_, _, _, _, Bo.newI _ _ _ _ _ _ _ _ rfl rfl, (IsI.ext ⟨_, _, _, _, rfl, h2.mono l2⟩ e9)⟩
  ·obtain rfl : z3 = q := by simpa using hq
   exact ⟨_, _, _, _, Bo.newI _ _ _ _ _ _ _ _ rfl rfl, (IsI.ext ⟨_, _, _, _, rfl, h3.mono l3⟩ e9)⟩
  ·simp at hq⟩
/-- An integer that stands somewhere in memory. -/
theorem ldIX {g q T : Nat} {x : Operand} {Φ : Value → World → Prop} (h : ∀ w, Ext w0 w → ∃ s a n c, Bo w g q s a n c ∧ Φ (.agg #[.bool s, .slice a n c]) w)
  (hx : Od ops ds a0 w0 L i x (IsV (.pointer (some ⟨g, 2 * q, none⟩)))) (hT : LdI Tryz.prog T) (ho : o.op = .load T x := by rfl) (hi : L.getD i (fun _ _ => True) = Φ := by kernel_rfl) (hb : boxes.contains i = false := by kernel_rfl) : Ok Tryz.prog ops Q ds a0 w0 L boxes i o :=
 Ok.of hb fun v a w hE hd hf => by
  have h0 : a.eval x = _ := hx.out v a w hE hd hf
  obtain ⟨s, a1, n, c, b, k1⟩ := h w hE
  exact ⟨_, ld_run ho h0 (hT w g (2 * q) _ _ _ _ b.c0 b.c1), by rw [hi]; exact k1⟩
theorem lenLi {B0 K : Nat} {zs : List Int} {x : Operand} (hx : Od ops ds a0 w0 L i x (IsLi B0 K zs)) (ho : o.op = .call { callee := .builtin .len, args := #[x], argTypes := #[69] } := by rfl) (hi : L.getD i (fun _ _ => True) = IsV (.int .i64 ((zs.length : Nat) : Int)) := by kernel_rfl) (hb : boxes.contains i = false := by kernel_rfl) : Ok Tryz.prog ops Q ds a0 w0 L boxes i o :=
 Ok.of hb fun v a w hE hd hf => by
  obtain ⟨g, h1, _⟩ := hx.out v a w hE hd hf
  refine ⟨_, ?_, by rw [hi]; exact rfl⟩
  unfold execOp
  rw [ho]
  dsimp only
  unfold resolve
  simp only [List.map_toArray, List.map_cons, List.map_nil, h1]
  go_simp
theorem ix_Int (g n c j : Nat) (h : j < n) (w : World) : (Instr.indexAt 69 (.slice (some ⟨g, 0, none⟩) n c) (.int .i64 ((j : Nat) : Int))).run Tryz.prog w = .ok (.pointer (some ⟨g, 2 * j, none⟩)) w := by
 have h1 : (0 : Int) ≤ (j : Int) := by omega
 have h2 : (j : Int) < (n : Int) := by omega
 have h3 : 0 + j * 2 = 2 * j := by omega
 have h4 : j * 2 = 2 * j := by omega
 go_simp
end

/-- How things stand in the round over three products. -/
structure LIv (w W : World) (g6 gz k : Nat) (lo hi : Int) (zs : List Int) : Prop where
 E : Ext w W
 b3 : Bk W (w.heap.size + 2) [.bool false, .slice none 0 0, .bool false, .slice none 0 0, .bool false]
 s6 : S6 k lo hi g6 W
 zs : ∀ j z, zs[j]? = some z → ∃ s a n c, Bo W gz j s a n c ∧ IsI k z (.agg #[.bool s, .slice a n c]) W
 p6 : w.heap.size + 3 ≤ g6
 ne : gz ≠ g6
 sz : w.heap.size + 3 ≤ W.heap.size ∧ g6 < W.heap.size ∧ gz < W.heap.size
theorem LIv.ext {w W W' : World} {g6 gz k : Nat} {lo hi : Int} {zs : List Int} (S : LIv w W g6 gz k lo hi zs) (e : Ext W W') : LIv w W' g6 gz k lo hi zs :=
 ⟨S.E.trans e, S.b3.ext e, S.s6.ext e, fun j z h => let ⟨s, a, n, c, b, q⟩ := S.zs j z h; ⟨s, a, n, c, b.ext e, q.ext e⟩, S.p6, S.ne, by have := S.sz; have := e.size; omega⟩
theorem LIv.only {w W W' : World} {g6 gz k g8 : Nat} {lo hi : Int} {zs : List Int} (S : LIv w W g6 gz k lo hi zs) (O : OnlyB g8 W W') (h1 : w.heap.size + 3 ≤ g8) (h2 : g8 ≠ g6) (h3 : gz ≠ g8) : LIv w W' g6 gz k lo hi zs :=
 ⟨O.ext S.E (by omega), O.bk S.b3 (by omega), S.s6.ob (Ob.only O) (Ne.symm h2), fun j z h => let ⟨s, a, n, c, b, q⟩ := S.zs j z h; ⟨s, a, n, c, (Ob.only O).bo b h3, IsI.gstb _ _ _ _ _ O.gr q⟩, S.p6, S.ne, by have := S.sz; rw [O.size]; omega⟩
theorem LIv.ob {w W W' : World} {g6 gz k : Nat} {lo hi lo' hi' : Int} {zs : List Int} (S : LIv w W g6 gz k lo hi zs) (O : Ob g6 W W') (h : S6 k lo' hi' g6 W') : LIv w W' g6 gz k lo' hi' zs :=
 ⟨O.ext S.E (by have := S.p6; omega), O.bk S.b3 (by have := S.p6; omega), h, fun j z h => let ⟨s, a, n, c, b, q⟩ := S.zs j z h; ⟨s, a, n, c, O.bo b S.ne, IsI.gstb _ _ _ _ _ O.gr q⟩, S.p6, S.ne, by have := S.sz; have := O.size; omega⟩
theorem al_In (w : World) : (Instr.alloc 28 true (.tuple #[])).run Tryz.prog w = .ok (.pointer (some ⟨w.heap.size, 0, none⟩)) (w.alloc (.cells [.bool false, .slice none 0 0].toArray 28)) := by go_simp

set_option maxRecDepth 100000 in
set_option maxHeartbeats 8000000 in
theorem opM_f {k : Nat} {l1 u1 l2 u2 : Int} {f1 f2 : Bool} {x y : Value} {w : World} (hx : IsKn k l1 u1 f1 x w) (hy : IsKn k l2 u2 f2 y w) (HK : Hid (k ≤ 1000)) : Calls Tryz.prog 143 #[x, y] w (OpP w (shortV (mul4 ⟨l1, u1, f1⟩ ⟨l2, u2, f2⟩))) := by
 obtain ⟨s1, a1, n1, c1, s2, a2, n2, c2, rfl, h1, h2⟩ := hx
 obtain ⟨s3, a3, n3, c3, s4, a4, n4, c4, rfl, h3, h4⟩ := hy
 obtain ⟨W, hW, E, B1, B2, B3⟩ : ∃ W, W = ((w.alloc (.cells #[.bool s1, .slice a1 n1 c1, .bool s2, .slice a2 n2 c2, .bool f1] 176)).alloc (.cells #[.bool s3, .slice a3 n3 c3, .bool s4, .slice a4 n4 c4, .bool f2] 176)).alloc (.cells #[.bool false, .slice none 0 0, .bool false, .slice none 0 0, .bool false] 176) ∧ Ext w W ∧ Bk W w.heap.size [.bool s1, .slice a1 n1 c1, .bool s2, .slice a2 n2 c2, .bool f1] ∧ Bk W (w.heap.size + 1) [.bool s3, .slice a3 n3 c3, .bool s4, .slice a4 n4 c4, .bool f2] ∧ Bk W (w.heap.size + 2) [.bool false, .slice none 0 0, .bool false, .slice none 0 0, .bool false] :=
  ⟨_, rfl, (((Ext.refl w).alloc _).alloc _).alloc _, (Bk.new w _ _).ext (((Ext.refl _).alloc _).alloc _), (Bk.newE _ _ (by simp) _ _).ext ((Ext.refl _).alloc _), Bk.newE _ _ (by simp) _ _⟩
 replace h1 := h1.ext E
 replace h2 := h2.ext E
 replace h3 := h3.ext E
 replace h4 := h4.ext E
 go_enter Tryz.func143, Tryz.ntmps143
 go_upto_region 1 with (fail)
 rw [← hW]
 clear hW
 have hs0 := B3.lt
 refine rgs 6 [some 9, some 10, some 11, some 12, some 13, some 5] [IsV (.pointer (some ⟨w.heap.size, 0, none⟩)), IsI k l1, IsV (.pointer (some ⟨w.heap.size + 1, 0, none⟩)), IsI k l2, IsI (k + k) (l1 * l2), IsNb W.heap.size [.bool false, .slice none 0 0]] [] ?_ ?_ (hst := by repeat' (first | exact trivial | exact IsV.stb _ | exact IsKn.stb _ _ _ _ | exact IsI.stb _ _ | exact IsNb.stb _ _ | exact IsLi.stb _ _ _ | apply And.intro))
 ·refine Rc (fa (fa_Kn0 w.heap.size 0) (Od.lit 2)) ?_
  refine Rc (lvI 0 B1 h1 ld_Int (Od.lc 0 9)) ?_
  refine Rc (fa (fa_Kn0 (w.heap.size + 1) 0) (Od.lit 3)) ?_
  refine Rc (lvI 0 B2 h3 ld_Int (Od.lc 2 11)) ?_
  refine Rc (cl2 (en Tryz.func129) (Od.lc (Φ := IsI k l1) 1 10) (Od.lc (Φ := IsI k l2) 3 12) (fun x0 x1 w' hE d0 d1 => Mul_f d0 d1 (by have := HK.out; omega) (by have := HK.out; omega))) ?_
  refine Rc (alB al_In (Nat.le_refl _)) ?_
  exact RgAll.nil
 intro v W1 e1 hΦ _
 replace E := E.trans e1
 replace B1 := B1.ext e1
 replace B2 := B2.ext e1
 replace B3 := B3.ext e1
 replace h1 := h1.ext e1
 replace h2 := h2.ext e1
 replace h3 := h3.ext e1
 replace h4 := h4.ext e1
 obtain ⟨s5, a5, n5, c5, hv4, hp⟩ := hΦ 4 (by decide)
 obtain ⟨g5, hv5, hg5, B5⟩ := hΦ 5 (by decide)
 replace hp : IsI (k + k) (l1 * l2) (.agg #[.bool s5, .slice a5 n5 c5]) W1 := ⟨_, _, _, _, rfl, hp⟩
 simp only [layL, Act.put, uAx, u0x, u1x, Nat.reduceAdd]
 rw [hv4, hv5]
 clear hv4 hv5 hΦ e1
 refine stL (fun K hK => ?_)
 refine stVO (us := [.bool s5, .slice a5 n5 c5]) B5 st_In rfl rfl nw2 (fun W2 B5' O => hK _ _ ?_)
 clear B5
 have B5 := B5'
 clear B5'
 replace E := O.ext E (by omega)
 replace B1 := O.bk B1 (by omega)
 replace B2 := O.bk B2 (by omega)
 replace B3 := O.bk B3 (by omega)
 replace h1 := IsI.gstb _ _ _ _ _ O.gr h1
 replace h2 := IsI.gstb _ _ _ _ _ O.gr h2
 replace h3 := IsI.gstb _ _ _ _ _ O.gr h3
 replace h4 := IsI.gstb _ _ _ _ _ O.gr h4
 replace hp := IsI.gstb _ _ _ _ _ O.gr hp
 clear O hK K
 refine wpList_nil ?_
 have hs1 := B5.lt
 go_upto_region 2 with (fail)
 refine rgs 4 [some 14, some 15, some 16, some 6] [IsI (k + k) (l1 * l2), IsI (k + k) (l1 * l2), IsKn (k + k) (l1 * l2) (l1 * l2) false, IsNb W2.heap.size [.bool false, .slice none 0 0, .bool false, .slice none 0 0, .bool false]] [] ?_ ?_ (hst := by repeat' (first | exact trivial | exact IsV.stb _ | exact IsKn.stb _ _ _ _ | exact IsI.stb _ _ | exact IsNb.stb _ _ | exact IsLi.stb _ _ _ | apply And.intro))
 ·refine Rc (lvI 0 B5 hp ld_Int (Od.lit 5)) ?_
  refine Rc (lvI 0 B5 hp ld_Int (Od.lit 5)) ?_
  refine Rc (bkn (Od.loc 0 14) (Od.loc 1 15) bd_Kn) ?_
  refine Rc (alB al_Kn (Nat.le_refl _)) ?_
  exact RgAll.nil
 intro v W3 e1 hΦ _
 replace E := E.trans e1
 replace B1 := B1.ext e1
 replace B2 := B2.ext e1
 replace B3 := B3.ext e1
 replace h1 := h1.ext e1
 replace h2 := h2.ext e1
 replace h3 := h3.ext e1
 replace h4 := h4.ext e1
 obtain ⟨s6, a6, n6, c6, s7, a7, n7, c7, hv2, hp1, hp2⟩ := hΦ 2 (by decide)
 obtain ⟨g6, hv3, hg6, B6⟩ := hΦ 3 (by decide)
 simp only [layL, Act.put, uAx, u0x, u1x, Nat.reduceAdd]
 rw [hv2, hv3]
 clear hv2 hv3 hΦ e1 hp B5
 refine stL (fun K hK => ?_)
 refine stVO (us := [.bool s6, .slice a6 n6 c6, .bool s7, .slice a7 n7 c7, .bool false]) B6 st_Kn rfl rfl nw5 (fun W4 B6' O => hK _ _ ?_)
 replace E := O.ext E (by omega)
 replace B1 := O.bk B1 (by omega)
 replace B2 := O.bk B2 (by omega)
 replace B3 := O.bk B3 (by omega)
 replace h1 := IsI.gstb _ _ _ _ _ O.gr h1
 replace h2 := IsI.gstb _ _ _ _ _ O.gr h2
 replace h3 := IsI.gstb _ _ _ _ _ O.gr h3
 replace h4 := IsI.gstb _ _ _ _ _ O.gr h4
 have S : S6 (k + k) (l1 * l2) (l1 * l2) g6 W4 := ⟨_, _, _, _, _, _, _, _, B6', IsI.gstb _ _ _ _ _ O.gr hp1, IsI.gstb _ _ _ _ _ O.gr hp2⟩
 have hs2 := B6'.lt
 have hg6' : w.heap.size + 3 ≤ g6 := by omega
 clear O hK K B6 B6' hp1 hp2
 refine wpList_nil ?_
 go_upto_region 3 with (fail)
 refine rg 18 [some 17, some 18, some 19, some 20, some 21, some 22, some 23, some 24, some 25, some 26, some 27, some 28, some 29, some 30, some 31, some 32, some 33, some 34] [IsV (.pointer (some ⟨w.heap.size, 0, none⟩)), IsI k l1, IsV (.pointer (some ⟨w.heap.size + 1, 2, none⟩)), IsI k u2, IsI (k + k) (l1 * u2), IsV (.pointer (some ⟨w.heap.size, 2, none⟩)), IsI k u1, IsV (.pointer (some ⟨w.heap.size + 1, 0, none⟩)), IsI k l2, IsI (k + k) (u1 * l2), IsV (.pointer (some ⟨w.heap.size, 2, none⟩)), IsI k u1, IsV (.pointer (some ⟨w.heap.size + 1, 2, none⟩)), IsI k u2, IsI (k + k) (u1 * u2), IsLi W4.heap.size (k + k) [l1 * u2, u1 * l2, u1 * u2], IsV (.int .i64 3), IsV (.int .i64 0)] [] 0 ?_ ?_ (hst := by repeat' (first | exact trivial | exact IsV.stb _ | exact IsKn.stb _ _ _ _ | exact IsI.stb _ _ | exact IsNb.stb _ _ | exact IsLi.stb _ _ _ | apply And.intro))
 ·refine Rc (fa (fa_Kn0 w.heap.size 0) (Od.lit 2)) ?_
  refine Rc (lvI 0 B1 h1 ld_Int (Od.lc 0 17)) ?_
  refine Rc (fa (fa_Kn1 (w.heap.size + 1) 0) (Od.lit 3)) ?_
  refine Rc (lvI 2 B2 h4 ld_Int (Od.lc 2 19)) ?_
  refine Rc (cl2 (en Tryz.func129) (Od.lc (Φ := IsI k l1) 1 18) (Od.lc (Φ := IsI k u2) 3 20) (fun x0 x1 w' hE d0 d1 => Mul_f d0 d1 (by have := HK.out; omega) (by have := HK.out; omega))) ?_
  refine Rc (fa (fa_Kn1 w.heap.size 0) (Od.lit 2)) ?_
  refine Rc (lvI 2 B1 h2 ld_Int (Od.lc 5 22)) ?_
  refine Rc (fa (fa_Kn0 (w.heap.size + 1) 0) (Od.lit 3)) ?_
  refine Rc (lvI 0 B2 h3 ld_Int (Od.lc 7 24)) ?_
  refine Rc (cl2 (en Tryz.func129) (Od.lc (Φ := IsI k u1) 6 23) (Od.lc (Φ := IsI k l2) 8 25) (fun x0 x1 w' hE d0 d1 => Mul_f d0 d1 (by have := HK.out; omega) (by have := HK.out; omega))) ?_
  refine Rc (fa (fa_Kn1 w.heap.size 0) (Od.lit 2)) ?_
  refine Rc (lvI 2 B1 h2 ld_Int (Od.lc 10 27)) ?_
  refine Rc (fa (fa_Kn1 (w.heap.size + 1) 0) (Od.lit 3)) ?_
  refine Rc (lvI 2 B2 h4 ld_Int (Od.lc 12 29)) ?_
  refine Rc (cl2 (en Tryz.func129) (Od.lc (Φ := IsI k u1) 11 28) (Od.lc (Φ := IsI k u2) 13 30) (fun x0 x1 w' hE d0 d1 => Mul_f d0 d1 (by have := HK.out; omega) (by have := HK.out; omega))) ?_
  refine Rc (bI3 (K := k + k) (Od.loc 4 21) (Od.loc 9 26) (Od.loc 14 31) (Nat.le_refl _) (Nat.le_refl _) (Nat.le_refl _) (Nat.le_refl _)) ?_
  refine Rc (lenLi (Od.lc (Φ := IsLi W4.heap.size (k + k) [l1 * u2, u1 * l2, u1 * u2]) 15 32)) ?_
  refine Rc (mv Od.con) ?_
  exact RgAll.nil
 intro v W5 e1 hΦ _
 replace E := E.trans e1
 replace B3 := B3.ext e1
 replace S := S.ext e1
 obtain ⟨gz, hv15, hnw, hz⟩ := hΦ 15 (by decide)
 simp only [layL, Act.put, uAx, u0x, u1x, Nat.reduceAdd]
 rw [hv15, show v 16 = .int .i64 3 from hΦ 16 (by decide), show v 17 = .int .i64 0 from hΦ 17 (by decide)]
 simp only [List.length_cons, List.length_nil, Nat.reduceAdd]
 have he1 := e1.size
 clear hv15 hΦ e1 B1 B2 h1 h2 h3 h4
 refine wpAny_done (by kernel_rfl) ?_ _
 obtain ⟨zs, hzs⟩ : ∃ zs, [l1 * u2, u1 * l2, u1 * u2] = zs := ⟨_, rfl⟩
 have hzl : zs.length = 3 := by rw [← hzs]; rfl
 have hgz : gz ≠ g6 := by { have := hnw; omega }
 have hzt : gz < W5.heap.size := by { obtain ⟨s, a, n, c, b, _⟩ := hz 0 _ rfl; exact b.lt }
 rw [hzs] at hz
 have L0 : LIv w W5 g6 gz (k + k) (l1 * l2) (l1 * l2) zs := ⟨E, B3, S, hz, hg6', hgz, by omega⟩
 have HMU : Hid (mul4 ⟨l1, u1, f1⟩ ⟨l2, u2, f2⟩ = ⟨zs.foldl min (l1 * l2), zs.foldl max (l1 * l2), false⟩) := hid (by rw [← hzs]; rfl)
 clear hz hzs hgz E B3 S hg6'
 generalize hp0 : l1 * l2 = p0 at L0 HMU
 clear hp0
 go_wp2_with fail
 have L0 := hid L0
 have HZL := hid hzl; clear hzl
 go_loopg [34] 4 (fun gk v34 wr => ∃ (j : Nat), v34 = .int .i64 ((j : Nat) : Int) ∧ j + gk = 4 ∧ j ≤ 3 ∧ Hid (LIv w wr g6 gz (k + k) ((zs.take j).foldl min p0) ((zs.take j).foldl max p0) zs))
 case atStart => exact ⟨0, rfl, by omega, by omega, by simpa using L0⟩
 case round =>
  clear L0
  obtain ⟨j, rfl, hg, hj, S⟩ := hrel
  have S := S.out
  have HG := hid (And.intro hg hj)
  by_cases hlt : j < 3
  ·obtain ⟨z, hz⟩ : ∃ z, zs[j]? = some z := ⟨_, List.getElem?_eq_getElem (by rw [HZL.out]; exact hlt)⟩
   have HZI := hid hz
   have HLT := hid hlt
   have HLI := hid (show ((j : Nat) : Int) < 3 by omega)
   have HI1 := hid (show IntKind.i64.wrap (((j : Nat) : Int) + 1) = ((j : Nat) : Int) + 1 by simp only [IntKind.wrap_i64]; omega)
   generalize hlo : (zs.take j).foldl min p0 = lo at S
   generalize hhi : (zs.take j).foldl max p0 = hi at S
   have HLO := hid (And.intro hlo hhi)
   clear hz hg hj hlt hlo hhi
   go_upto_region 4 with (fail)
   refine rgs 1 [some 35] [IsV (.bool true)] [] ?_ ?_
   ·refine Rc (bn (r := .bool true) (Od.lit (x := .int .i64 ((j : Nat) : Int)) 34) (Od.lit (x := .int .i64 3) 33) (hr := fun w => by have hx9 := HLT.out; have hx8 := HLI.out; go_simp)) ?_
    exact RgAll.nil
   intro v W6 e1 hΦ _
   replace S := S.ext e1
   simp only [layL, Act.put, uAx, u0x, u1x]
   rw [show v 0 = .bool true from hΦ 0 (by decide)]
   clear hΦ e1
   refine wpList_nil ?_
   go_upto_region 5 with (fail)
   refine rgs 3 [some 36, some 37, some 8] [IsV (.pointer (some ⟨gz, 2 * j, none⟩)), IsI (k + k) z, IsNb W6.heap.size [.bool false, .slice none 0 0]] [] ?_ ?_ (hst := by repeat' (first | exact trivial | exact IsV.stb _ | exact IsKn.stb _ _ _ _ | exact IsI.stb _ _ | exact IsNb.stb _ _ | exact IsLi.stb _ _ _ | apply And.intro))
   ·refine Rc (ixq (ix_Int gz 3 3 j HLT.out) (Od.lit 32) (Od.lit (x := .int .i64 ((j : Nat) : Int)) 34)) ?_
    refine Rc (ldIX (fun w' e => let ⟨s, a, n, c, b, q⟩ := S.zs j z HZI.out; ⟨s, a, n, c, b.ext e, q.ext e⟩) (Od.loc 0 36) ld_Int) ?_
    refine Rc (alB al_In (Nat.le_refl _)) ?_
    exact RgAll.nil
   have hsz := S.sz
   intro v W7 e1 hΦ _
   replace S := S.ext e1
   obtain ⟨s8, a8, n8, c8, hv1, hz8⟩ := hΦ 1 (by decide)
   obtain ⟨g8, hv2, hg8, B8⟩ := hΦ 2 (by decide)
   replace hz8 : IsI (k + k) z (.agg #[.bool s8, .slice a8 n8 c8]) W7 := ⟨_, _, _, _, rfl, hz8⟩
   simp only [layL, Act.put, uAx, u0x, u1x, Nat.reduceAdd]
   rw [hv1, hv2]
   clear hv1 hv2 hΦ e1
   refine stL (fun K hK => ?_)
   refine stVO (us := [.bool s8, .slice a8 n8 c8]) B8 st_In rfl rfl nw2 (fun W8 B8' O => hK _ _ ?_)
   have ng8 : g8 ≠ g6 := by omega
   replace S := S.only O (by omega) ng8 (by omega)
   replace hz8 := IsI.gstb _ _ _ _ _ O.gr hz8
   clear B8
   have B8 := B8'
   clear B8' O hK K
   refine wpList_nil ?_
   go_upto_region 6 with (fail)
   have hk6 : K6 (k + k) lo (min lo z) hi g6 W8 := .inl S.s6
   refine wp_region_rgx (R6 (k + k) lo (min lo z) hi g6) 11 [some 38, some 39, some 40, some 41, some 42, some 43, some 44, some 45, some 46, none, some 47] [IsV (.pointer (some ⟨g6, 0, none⟩)), IsOr (k + k) lo (min lo z), IsI (k + k) z, IsI (k + k) (min lo z), IsV (.pointer (some ⟨g6, 2, none⟩)), IsI (k + k) hi, IsI (k + k) z, IsI (k + k) (max hi z), IsV (.pointer (some ⟨g6, 0, none⟩)), (fun _ w => S6 (k + k) (min lo z) hi g6 w), IsV (.pointer (some ⟨g6, 2, none⟩))] (by kernel_rfl) (by kernel_rfl) (by kernel_rfl) (by kernel_rfl) (by kernel_rfl) (by kernel_rfl) R6.trans R6.of ?_ ?_ ?_
   ·exact ⟨fun _ _ _ _ h => h, fun _ _ _ q h => h.imp (IsI.gstb _ _ _ _ _ q.ob.gr) (IsI.gstb _ _ _ _ _ q.ob.gr), fun _ _ _ q h => IsI.gstb _ _ _ _ _ q.ob.gr h, fun _ _ _ q h => IsI.gstb _ _ _ _ _ q.ob.gr h, fun _ _ _ _ h => h, fun _ _ _ q h => IsI.gstb _ _ _ _ _ q.ob.gr h, fun _ _ _ q h => IsI.gstb _ _ _ _ _ q.ob.gr h, fun _ _ _ q h => IsI.gstb _ _ _ _ _ q.ob.gr h, fun _ _ _ _ h => h, fun _ _ _ q h => q.s6 h, fun _ _ _ _ h => h, trivial⟩
   ·refine Rx6 (fun w' q => fa (fa_Kn0 g6 0) (Od.lit 6)) ?_
    refine Rx6 (fun w' q => ldOr (q.k6 hk6) ld_Int (Od.lc 0 38)) ?_
    refine Rx6 (fun w' q => lvI 0 (q.ob.bk B8 ng8) (IsI.gstb _ _ _ _ _ q.ob.gr hz8) ld_Int (Od.lit 8)) ?_
    refine Rx6 (fun w' q => cl2 (en Tryz.func144) (Od.lc (Φ := IsOr (k + k) lo (min lo z)) 1 39) (Od.lc (Φ := IsI (k + k) z) 2 40) (fun x0 x1 w' hE d0 d1 => d0.elim (fun d0 => lessv_f d0 d1 (by have := HK.out; omega)) (fun d0 => Calls.mono (lessv_f d0 d1 (by have := HK.out; omega)) fun _ _ h => h.iup (by omega) (Nat.le_refl _)))) ?_
    refine Rx6 (fun w' q => fa (fa_Kn1 g6 0) (Od.lit 6)) ?_
    refine Rx6 (fun w' q => ldHi (q.k6 hk6) ld_Int (Od.lc 4 42)) ?_
    refine Rx6 (fun w' q => lvI 0 (q.ob.bk B8 ng8) (IsI.gstb _ _ _ _ _ q.ob.gr hz8) ld_Int (Od.lit 8)) ?_
    refine Rx6 (fun w' q => cl2 (en Tryz.func145) (Od.lc (Φ := IsI (k + k) hi) 5 43) (Od.lc (Φ := IsI (k + k) z) 6 44) (fun x0 x1 w' hE d0 d1 => greaterv_f d0 d1 (by have := HK.out; omega))) ?_
    refine Rx6 (fun w' q => fa (fa_Kn0 g6 0) (Od.lit 6)) ?_
    refine st6 hk6 st_Int (fun w' => Od.lc 8 46) (fun w' => Od.lc 3 41) ?_
    refine Rx6 (fun w' q => fa (fa_Kn1 g6 0) (Od.lit 6)) ?_
    exact RgAllx.nil
   intro v W9 q hΦ
   have S9 : S6 (k + k) (min lo z) hi g6 W9 := hΦ 9 (by decide)
   obtain ⟨s7, a7, n7, c7, hv7, hm⟩ := hΦ 7 (by decide)
   replace hm : IsI (k + k) (max hi z) (.agg #[.bool s7, .slice a7 n7 c7]) W9 := ⟨_, _, _, _, rfl, hm⟩
   obtain ⟨O9, S9'⟩ := S9.putH hm
   replace S := S.ob (q.ob.trans O9) S9'
   simp only [layL, Act.put, uAx, u0x, u1x, Nat.reduceAdd]
   rw [hv7, show v 10 = .pointer (some ⟨g6, 2, none⟩) from hΦ 10 (by decide)]
   clear hv7 hΦ q S9' O9
   obtain ⟨s0, a0', n0, c0, s', a', n', c', B9, _⟩ := S9
   refine stA 11 (h := fun K hK => ?_)
   refine st_wp (p := .pointer (some ⟨g6, 2, none⟩)) (u := .agg #[.bool s7, .slice a7 n7 c7]) rfl (by kernel_rfl) (by kernel_rfl) (st_Int W9 g6 2 s' a' n' c' s7 a7 n7 c7 (B9.c 2 _ rfl) (B9.c 3 _ rfl) (B9.f 2) (B9.f 3)) (hK _ _ ?_)
   generalize (W9.setCell ⟨g6, 2, none⟩ (.bool s7)).setCell ⟨g6, 3, none⟩ (.slice a7 n7 c7) = W10 at S ⊢
   clear B9 hK K hm
   refine wpAny_done (by kernel_rfl) ?_ _
   go_upto_region 7 with (fail)
   refine rgs 1 [some 48] [IsV (.int .i64 (((j : Nat) : Int) + 1))] [] ?_ ?_
   ·refine Rc (bn (r := .int .i64 (((j : Nat) : Int) + 1)) (Od.lit (x := .int .i64 ((j : Nat) : Int)) 34) Od.con (hr := fun w => by have hx9 := HI1.out; go_simp)) ?_
    exact RgAll.nil
   intro v W11 e1 hΦ _
   replace S := S.ext e1
   simp only [layL, Act.put, uAx, u0x, u1x]
   rw [show v 0 = .int .i64 (((j : Nat) : Int) + 1) from hΦ 0 (by decide)]
   clear hΦ e1
   refine wpList_step fun K hK => ?_; go_simp; refine hK _ _ ?_; clear hK K
   refine wpList_nil ?_
   have S' := hid S; clear S B8 hz8 hk6
   go_wp2_with fail
   go_roundg (gk - 1)
   case measure => have := HG.out; have := HLT.out; omega
   case rel =>
    refine ⟨j + 1, by rw [Int.natCast_add]; rfl, by have := HG.out; have := HLT.out; omega, by have := HLT.out; omega, ?_⟩
    have h1 := HLO.out
    rw [List.take_add_one, HZI.out, Option.toList_some, List.foldl_append, List.foldl_append, h1.1, h1.2]
    exact S'
  ·obtain rfl : j = 3 := by omega
   rw [show zs.take 3 = zs by rw [← HZL.out, List.take_length]] at S
   clear hg hj hlt
   go_upto_region 4 with (fail)
   refine rgs 1 [some 35] [IsV (.bool false)] [] ?_ ?_
   ·refine Rc (bn (r := .bool false) (Od.lit (x := .int .i64 ((3 : Nat) : Int)) 34) (Od.lit (x := .int .i64 3) 33) (hr := fun w => by go_simp)) ?_
    exact RgAll.nil
   intro v W6 e1 hΦ _
   replace S := S.ext e1
   simp only [layL, Act.put, uAx, u0x, u1x]
   rw [show v 0 = .bool false from hΦ 0 (by decide)]
   clear hΦ e1
   refine wpList_nil ?_
   go_upto_region 8 with (fail)
   obtain ⟨E, B3, ⟨s0, a0', n0, c0, s', a', n', c', B6, q1, q2⟩, _, _, _, _⟩ := S
   refine rgs 1 [some 49] [IsV (.agg #[.bool s0, .slice a0' n0 c0, .bool s', .slice a' n' c', .bool false])] [] ?_ ?_ (hst := by repeat' (first | exact trivial | exact IsV.stb _ | exact IsKn.stb _ _ _ _ | exact IsI.stb _ _ | exact IsNb.stb _ _ | exact IsLi.stb _ _ _ | apply And.intro))
   ·refine Rc (lvV B6 ld_Kn (Od.lit 6)) ?_
    exact RgAll.nil
   intro v W7 e1 hΦ _
   replace E := E.trans e1
   replace B3 := B3.ext e1
   replace q1 := q1.ext e1
   replace q2 := q2.ext e1
   simp only [layL, Act.put, uAx, u0x, u1x]
   rw [show v 0 = _ from hΦ 0 (by decide)]
   clear hΦ e1 B6
   have hQ : IsKn (k + k) (zs.foldl min p0) (zs.foldl max p0) false (.agg #[.bool s0, .slice a0' n0 c0, .bool s', .slice a' n' c', .bool false]) W7 := ⟨_, _, _, _, _, _, _, _, rfl, q1, q2⟩
   have hc := short_f hQ (by have := HK.out; omega)
   rw [← HMU.out] at hc
   obtain ⟨r, hr⟩ : ∃ r, shortV (mul4 ⟨l1, u1, f1⟩ ⟨l2, u2, f2⟩) = r := ⟨_, rfl⟩
   rw [hr] at hc
   have HR := hid hr
   clear hr
   refine stL (fun K hK => ?_)
   refine wp_call1 (en Tryz.func139) (by kernel_rfl) hc (fun v2 W8 h => hK _ _ ?_) (fun ch W8 h => ?_) (fun W8 h => ?_)
   ·obtain ⟨e2, h⟩ := h
    cases r with
    | error n => cases h
    | ok q =>
     obtain ⟨_, hv, s5, a5, n5, c5, s6, a6, n6, c6, hv2, g1, g2⟩ := h
     cases hv
     subst hv2
     replace E := E.trans e2
     replace B3 := B3.ext e2
     clear hK K
     go_simp
     refine stL (fun K hK => ?_)
     refine stV (us := [.bool s5, .slice a5 n5 c5, .bool s6, .slice a6 n6 c6, .bool q.fin]) B3 st_Kn rfl rfl nw5 E (by omega) (fun W9 B4 E2 G2 _ _ => hK _ _ ?_)
     refine wpList_nil ?_
     have d0 := B4.c 0 _ rfl; have d1 := B4.c 1 _ rfl; have d2 := B4.c 2 _ rfl; have d3 := B4.c 3 _ rfl; have d4 := B4.c 4 _ rfl
     go_wp2_with fail
     exact bodyPost_ret (v := .agg #[.bool s5, .slice a5 n5 c5, .bool s6, .slice a6 n6 c6, .bool q.fin]) (by simp [results, Tryz.results143, go_sem, d0, d1, d2, d3, d4]) rfl (show OpP w (shortV (mul4 ⟨l1, u1, f1⟩ ⟨l2, u2, f2⟩)) _ _ from by { rw [HR.out]; exact ⟨E2, _, rfl, _, _, _, _, _, _, _, _, rfl, IsI.gstb _ _ _ _ _ G2 g1, IsI.gstb _ _ _ _ _ G2 g2⟩ })
   ·obtain ⟨e2, h⟩ := h
    cases r with
    | ok q => obtain ⟨_, hv, _⟩ := h; cases hv
    | error n =>
     cases h
     exact ⟨rfl, (show OpP w (shortV (mul4 ⟨l1, u1, f1⟩ ⟨l2, u2, f2⟩)) _ _ from by { rw [HR.out]; exact ⟨E.trans e2, rfl⟩ })⟩
   ·obtain ⟨e2, h⟩ := h
    cases r with
    | ok q => obtain ⟨_, hv, _⟩ := h; cases hv
    | error n => cases h
end Go.Proofs.YtkeikfekkdplgaaGreatDoor
