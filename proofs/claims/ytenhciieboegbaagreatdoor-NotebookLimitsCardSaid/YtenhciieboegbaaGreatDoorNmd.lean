/-
  The reference's trees: build answers some right expression of at most so many levels. (Printed by wip/gen/ntr.py.)
  The reference's Made: at most four cells, each with a right tree of at most four levels.
-/
import Derived.Test.YtenhciieboegbaaGreatDoorNex3
import Derived.Test.YtenhciieboegbaaGreatDoorFact
namespace Go.Proofs.YtenhciieboegbaaGreatDoor
open Go Go.RowKit Go.Maps
/-- Expressions as they are built. -/
inductive Ex where
  | num (z : Int) | var (x : ByteArray) | cell (x : ByteArray) | val (x : ByteArray) (n : Int) | loop (fst : Bool) (x : ByteArray) (lo hi : Int) (b : Ex) | bin (op : Int) (p q : Ex)
abbrev bl (x : ByteArray) : List UInt8 := x.data.toList
def ndE : Ex → Nd
  | .num z => ⟨1, [], 0, z, 0, 0, []⟩
  | .var x => ⟨11, bl x, 0, 0, 0, 0, []⟩
  | .cell x => ⟨2, bl x, 0, 0, 0, 0, []⟩
  | .val x n => ⟨3, bl x, n, 0, 0, 0, []⟩
  | .loop fst x lo hi b => ⟨if fst then 10 else 9, bl x, 0, 0, lo, hi, [ndE b]⟩
  | .bin op p q => ⟨op, [], 0, 0, 0, 0, [ndE p, ndE q]⟩
def IsRw (B : Nat) (xs : List Value) (v : Value) (w : World) : Prop := ∃ ao c, v = .slice ao xs.length c ∧ (xs ≠ [] → ∃ g, ao = some ⟨g, 0, none⟩ ∧ B ≤ g ∧ ∀ j u, xs[j]? = some u → World.cell? w ⟨g, j, none⟩ = some u)
theorem IsRw.ext {B : Nat} {l : List Value} {v : Value} {w w' : World} (h : IsRw B l v w) (e : Ext w w') : IsRw B l v w' := by
  obtain ⟨ao, c, h1, h2⟩ := h
  exact ⟨ao, c, h1, fun hn => let ⟨g, k1, k2, k3⟩ := h2 hn; ⟨g, k1, k2, fun j u hj => e.cell (k3 j u hj)⟩⟩
theorem IsRw.stb (B : Nat) (l : List Value) : Stb (IsRw B l) := fun _ _ _ e h => h.ext e
/-- A fact of a guarded operation whose guard is a letter. -/
def IsIf (b : Bool) (Φ : Value → World → Prop) : Value → World → Prop := fun x w => bif b then Φ x w else x = undef
theorem IsIf.stb {b : Bool} {Φ : Value → World → Prop} (h : Stb Φ) : Stb (IsIf b Φ) := fun x w w' e k => by
  cases b
  · exact k
  · exact h x w w' e k
section
variable {P : Program} {ops : Array Oper} {Q : Exit → Act → World → Prop} {ds : List (Option Tmp)} {a0 : Act} {w0 : World} {L : List (Value → World → Prop)} {boxes : List Nat} {i k : Nat} {o : Oper} {os : List Oper}
theorem RcB (g t : Nat) (b pol : Bool) (h : b = pol → Ok P ops Q ds a0 w0 L boxes i o) (hs : RgAll P .any ops Q ds a0 w0 L boxes (i + 1) k os) (hg : o.guard = some (g, pol) := by rfl) (hdst : dstOf ops g = some t := by kernel_rfl) (h1 : ds[g]? = some (some t) := by kernel_rfl) (h2 : (ds.drop (g + 1)).contains (some t) = false := by kernel_rfl) (h3 : decide (t < a0.tmps.size) = true := by kernel_rfl) (hu : (ups .any ops i).contains g = true := by kernel_rfl)
    (hL : L.getD g (fun _ _ => True) = IsV (.bool b) := by kernel_rfl) (hb : boxes.contains i = false := by kernel_rfl) (hi : b = (!pol) → L.getD i (fun _ _ => True) = IsV undef := by intro h; subst h; kernel_rfl) : RgAll P .any ops Q ds a0 w0 L boxes i (k + 1) (o :: os) := by
  refine ⟨?_, hs⟩
  by_cases hbp : b = pol
  · have hL' : L.getD g (fun _ _ => True) = IsV (.bool pol) := by rw [hL, hbp]
    exact RgL.mkG g t pol hg hdst h1 h2 h3 hu (fun _ _ h => by rw [hL'] at h; exact h) (h hbp).out
  · have hbn : b = !pol := by cases b <;> cases pol <;> simp_all
    have hL' : L.getD g (fun _ _ => True) = IsV (.bool (!pol)) := by rw [hL, hbn]
    exact RgL.mkN g t (!pol) (by rw [hg, Bool.not_not]) hdst h1 h2 h3 hu (fun _ _ h => by rw [hL'] at h; exact h) hb (fun _ => by rw [hi hbn]; exact rfl)
theorem pkA {c y : Operand} {b b2 r : Bool} (hc : Od ops ds a0 w0 L i c (IsV (.bool b))) (hy : b = true → Od ops ds a0 w0 L i y (IsV (.bool b2))) (hr : (b && b2) = r) (ho : o.op = .pick c y (.const (.bool false)) := by rfl) (hi : L.getD i (fun _ _ => True) = IsV (.bool r) := by kernel_rfl) (hb : boxes.contains i = false := by kernel_rfl) : Ok P ops Q ds a0 w0 L boxes i o :=
  Ok.of hb fun v a w hE hd hf => by
    have h1 : a.eval c = .bool b := hc.out v a w hE hd hf
    refine ⟨.bool r, ?_, by rw [hi]; exact rfl⟩
    unfold execOp
    rw [ho]
    dsimp only
    rw [h1]
    cases b
    · subst hr; simp [asBool]; rfl
    · have h2 : a.eval y = .bool b2 := (hy rfl).out v a w hE hd hf
      rw [h2]
      subst hr; simp [asBool]
theorem pkO {c y : Operand} {b b2 r : Bool} (hc : Od ops ds a0 w0 L i c (IsV (.bool b))) (hy : b = false → Od ops ds a0 w0 L i y (IsV (.bool b2))) (hr : (b || b2) = r) (ho : o.op = .pick c (.const (.bool true)) y := by rfl) (hi : L.getD i (fun _ _ => True) = IsV (.bool r) := by kernel_rfl) (hb : boxes.contains i = false := by kernel_rfl) : Ok P ops Q ds a0 w0 L boxes i o :=
  Ok.of hb fun v a w hE hd hf => by
    have h1 : a.eval c = .bool b := hc.out v a w hE hd hf
    refine ⟨.bool r, ?_, by rw [hi]; exact rfl⟩
    unfold execOp
    rw [ho]
    dsimp only
    rw [h1]
    cases b
    · have h2 : a.eval y = .bool b2 := (hy rfl).out v a w hE hd hf
      rw [h2]
      subst hr; simp [asBool]
    · subst hr; simp [asBool]; rfl
end

/-- An expression in memory, its rows in blocks from B on. -/
def NdL (B _h : Nat) (e : Ex) (us : List Value) (w : World) : Prop := NdC B w (ndE e) us
theorem NdL.up {B B' h h' : Nat} (hb : B' ≤ B) (_ : h ≤ h') {w : World} {e : Ex} {us : List Value} (H : NdL B h e us w) : NdL B' h' e us w := NdC.low hb _ _ H
theorem NdL.ext {B h : Nat} {w w' : World} {e : Ex} {us : List Value} (H : NdL B h e us w) (E : Ext w w') : NdL B h e us w' := NdC.ext E H
def NhL (B H : Nat) (e : Ex) : Value → World → Prop := fun x w => ∃ us : List Value, x = .agg us.toArray ∧ us.length = 8 ∧ us.all (fun u => u.oneCell') = true ∧ (∀ v ∈ us, NoWord v) ∧ NdL B H e us w
def NeL (B : Nat) (e : Ex) : Value → World → Prop := fun x w => NhL B w.heap.size e x w
theorem NhL.stb (B H : Nat) (e : Ex) : Stb (NhL B H e) := fun _ _ _ E ⟨us, h1, h2, h3, h4, h5⟩ => ⟨us, h1, h2, h3, h4, h5.ext E⟩
theorem NeL.stb (B : Nat) (e : Ex) : Stb (NeL B e) := fun _ _ _ E ⟨us, h1, h2, h3, h4, h5⟩ => ⟨us, h1, h2, h3, h4, (h5.ext E).up (Nat.le_refl _) E.size⟩
def NsL (B H : Nat) (es : List Ex) : Value → World → Prop := fun x w => ∃ g, x = .slice (some ⟨g, 0, none⟩) es.length es.length ∧ B ≤ g ∧ g < w.heap.size ∧ ∀ i e, es[i]? = some e → ∃ vs : List Value, vs.length = 8 ∧ (∀ j v, vs[j]? = some v → World.cell? w ⟨g, 8 * i + j, none⟩ = some v) ∧ NdL B H e vs w
theorem NsL.stb (B H : Nat) (es : List Ex) : Stb (NsL B H es) := fun _ _ _ E ⟨g, h1, h2, h3, h4⟩ => ⟨g, h1, h2, Nat.lt_of_lt_of_le h3 E.size, fun i e hi => let ⟨vs, q1, q2, q3⟩ := h4 i e hi; ⟨vs, q1, fun j v hj => E.cell (q2 j v hj), q3.ext E⟩⟩
section
variable {ops : Array Oper} {Q : Exit → Act → World → Prop} {ds : List (Option Tmp)} {a0 : Act} {w0 : World} {L : List (Value → World → Prop)} {boxes : List Nat} {i k : Nat} {o : Oper} {os : List Oper}
theorem bs2L {B H : Nat} {x y : Operand} {e f : Ex} (hx : Od ops ds a0 w0 L i x (NhL B H e)) (hy : Od ops ds a0 w0 L i y (NhL B H f)) (hB : B ≤ w0.heap.size) (ho : o.op = .buildSlice 30 2 #[(0, x), (1, y)] := by rfl) (hi : L.getD i (fun _ _ => True) = NsL B H [e, f] := by kernel_rfl) (hb : boxes.contains i = false := by kernel_rfl) : Ok Tryz.prog ops Q ds a0 w0 L boxes i o :=
  ⟨fun v a w hE hd hf K hK => by
    obtain ⟨us, h1, hl, h3, h4, h5⟩ := hx.out v a w hE hd hf
    obtain ⟨u0, u1, u2, u3, u4, u5, u6, u7, rfl⟩ := len8 hl
    obtain ⟨us', h1', hl', h3', h4', h5'⟩ := hy.out v a w hE hd hf
    obtain ⟨t0, t1, t2, t3, t4, t5, t6, t7, rfl⟩ := len8 hl'
    have hr : (Instr.buildSlice 30 2 #[(0, .agg #[u0, u1, u2, u3, u4, u5, u6, u7]), (1, .agg #[t0, t1, t2, t3, t4, t5, t6, t7])]).run Tryz.prog w = .ok (.slice (some ⟨w.heap.size, 0, none⟩) 2 2) (w.alloc (.cells #[u0, u1, u2, u3, u4, u5, u6, u7, t0, t1, t2, t3, t4, t5, t6, t7] 32)) := by go_simp
    have hrun : (execOp a.eval o).run Tryz.prog w = .ok (.value (.slice (some ⟨w.heap.size, 0, none⟩) 2 2)) (w.alloc (.cells #[u0, u1, u2, u3, u4, u5, u6, u7, t0, t1, t2, t3, t4, t5, t6, t7] 32)) := by
      unfold execOp
      rw [ho]
      dsimp only
      simp only [List.map_toArray, List.map_cons, List.map_nil]
      rw [h1, h1']
      simp [hr]
    unfold Oper.wp
    rw [hrun]
    have E1 : Ext w (w.alloc (.cells #[u0, u1, u2, u3, u4, u5, u6, u7, t0, t1, t2, t3, t4, t5, t6, t7] 32)) := (Ext.refl _).alloc _
    have B1 := Bk.new w #[u0, u1, u2, u3, u4, u5, u6, u7, t0, t1, t2, t3, t4, t5, t6, t7] 32
    refine hK.out _ _ E1 ?_ (FreshIf.no hb)
    rw [hi]
    refine ⟨_, rfl, Nat.le_trans hB hE.size, B1.lt, fun i' e' hi' => ?_⟩
    rcases i' with _ | _ | i'
    · obtain rfl : e = e' := by simpa using hi'
      exact ⟨[u0, u1, u2, u3, u4, u5, u6, u7], rfl, fun j v hj => by rw [Nat.mul_zero, Nat.zero_add]; exact B1.c j v (getE_app _ [t0, t1, t2, t3, t4, t5, t6, t7] hj), h5.ext E1⟩
    · obtain rfl : f = e' := by simpa using hi'
      exact ⟨[t0, t1, t2, t3, t4, t5, t6, t7], rfl, fun j v hj => B1.c (8 + j) v (getE_app2 [u0, u1, u2, u3, u4, u5, u6, u7] _ hj), h5'.ext E1⟩
    · simp at hi'⟩
end
section
variable {ops : Array Oper} {Q : Exit → Act → World → Prop} {ds : List (Option Tmp)} {a0 : Act} {w0 : World} {L : List (Value → World → Prop)} {boxes : List Nat} {i k : Nat} {o : Oper} {os : List Oper}
/-- A row of constants. -/
theorem bsC {T : Nat} {xs : List Value} {n : Nat} {ps : Array (Nat × Operand)} (ho : o.op = .buildSlice T n ps := by rfl) (hr : ∀ (a : Act) (w : World), ∃ T', (Instr.buildSlice T n (ps.map fun p => (p.1, a.eval p.2))).run Tryz.prog w = .ok (.slice (some ⟨w.heap.size, 0, none⟩) xs.length xs.length) (w.alloc (.cells xs.toArray T')))
    (hi : L.getD i (fun _ _ => True) = IsRw 0 xs := by kernel_rfl) (hb : boxes.contains i = false := by kernel_rfl) : Ok Tryz.prog ops Q ds a0 w0 L boxes i o :=
  ⟨fun v a w hE hd hf K hK => by
    obtain ⟨T', hr'⟩ := hr a w
    have hrun : (execOp a.eval o).run Tryz.prog w = .ok (.value (.slice (some ⟨w.heap.size, 0, none⟩) xs.length xs.length)) (w.alloc (.cells xs.toArray T')) := by
      unfold execOp
      rw [ho]
      dsimp only
      simp [hr']
    unfold Oper.wp
    rw [hrun]
    refine hK.out _ _ ((Ext.refl w).alloc _) ?_ (FreshIf.no hb)
    rw [hi]
    exact ⟨_, _, rfl, fun _ => ⟨_, rfl, Nat.zero_le _, fun j u hj => (Bk.new w xs.toArray T').c j u (by simpa using hj)⟩⟩⟩
/-- Nodes out of their fields. -/
theorem bdG2 {T : Nat} {ps : Array (Nat × Operand)} {Φ : Value → World → Prop} (ho : o.op = .build T ps) (hi : L.getD i (fun _ _ => True) = Φ) (hb : boxes.contains i = false) (h : ∀ (v : Nat → Value) (a : Act) (w : World), Ext w0 w → (∀ j, (ups .any ops i).contains j = true → L.getD j (fun _ _ => True) (v j) w) → Fr ds a0 v a → ∃ u, (Instr.build T (ps.map fun p => (p.1, a.eval p.2))).run Tryz.prog w = .ok u w ∧ Φ u w) : Ok Tryz.prog ops Q ds a0 w0 L boxes i o :=
  Ok.of hb fun v a w hE hd hf => by
    obtain ⟨u, h1, h2⟩ := h v a w hE hd hf
    exact ⟨u, bdG ho h1, by rw [hi]; exact h2⟩
theorem bdBin {B H : Nat} {op : Int} {p q : Ex} {x y : Operand} (hx : Od ops ds a0 w0 L i x (IsV (.int .i64 op))) (hy : Od ops ds a0 w0 L i y (NsL B H [p, q])) (_ : H ≤ w0.heap.size) (ho : o.op = .build 32 #[(0, x), (6, y)] := by rfl) (hi : L.getD i (fun _ _ => True) = NeL B (.bin op p q) := by kernel_rfl) (hb : boxes.contains i = false := by kernel_rfl) (hop : -9223372036854775808 ≤ op ∧ op ≤ 9223372036854775807 := by omega) : Ok Tryz.prog ops Q ds a0 w0 L boxes i o :=
  bdG2 ho hi hb fun v a w hE hd hf => by
    have e1 : a.eval x = .int .i64 op := hx.out v a w hE hd hf
    obtain ⟨g, e2, q2, q3, q4⟩ := hy.out v a w hE hd hf
    have hr : (Instr.build 32 #[(0, .int .i64 op), (6, .slice (some ⟨g, 0, none⟩) 2 2)]).run Tryz.prog w = .ok (.agg #[.int .i64 op, .string ⟨#[]⟩, .int .i64 0, .bool false, .slice none 0 0, .int .i64 0, .int .i64 0, .slice (some ⟨g, 0, none⟩) 2 2]) w := by go_simp
    obtain ⟨vs, r1, r2, r3⟩ := q4 0 p rfl
    obtain ⟨vs', r1', r2', r3'⟩ := q4 1 q rfl
    refine ⟨_, by simp only [List.map_toArray, List.map_cons, List.map_nil]; rw [e1, e2]; exact hr, _, rfl, rfl, rfl, nwNd, NdC.mk' ⟨by simp [ndE, Nd.nm], hop.1, hop.2⟩ rfl (IsI.nil _ _) (Nat.le_refl _) (show (2 : Nat) ≤ 9223372036854775807 by decide) (fun _ => ⟨g, 0, rfl, q2, NdR.of fun i z hi => ?_⟩)⟩
    rcases i with _ | _ | i
    · obtain rfl : ndE p = z := by simpa [ndE, Nd.ps] using hi
      exact ⟨vs, r1, fun j v hj => by simpa using r2 j v hj, r3⟩
    · obtain rfl : ndE q = z := by simpa [ndE, Nd.ps] using hi
      exact ⟨vs', r1', fun j v hj => by simpa using r2' j v hj, r3'⟩
    · simp [ndE, Nd.ps] at hi
theorem bdNum {B : Nat} {z : Int} {x : Operand} (hx : Od ops ds a0 w0 L i x (IsI 2 z)) (ho : o.op = .build 32 #[(0, .const (.int .i64 1)), (3, x)] := by rfl) (hi : L.getD i (fun _ _ => True) = NeL B (.num z) := by kernel_rfl) (hb : boxes.contains i = false := by kernel_rfl) : Ok Tryz.prog ops Q ds a0 w0 L boxes i o :=
  bdG2 ho hi hb fun v a w hE hd hf => by
    have hI := hx.out v a w hE hd hf
    obtain ⟨s, p, n, c, e1, hx2⟩ := id hI
    have hr : (Instr.build 32 #[(0, .int .i64 1), (3, .agg #[.bool s, .slice p n c])]).run Tryz.prog w = .ok (.agg #[.int .i64 1, .string ⟨#[]⟩, .int .i64 0, .bool s, .slice p n c, .int .i64 0, .int .i64 0, .slice none 0 0]) w := by go_simp
    exact ⟨_, by simp only [List.map_toArray, List.map_cons, List.map_nil]; rw [e1, show a.eval (.const (.int .i64 1)) = .int .i64 1 from rfl]; exact hr, _, rfl, rfl, rfl, nwNd, nd_num (by rw [← e1]; exact IsI.mono hI (by decide))⟩
theorem nd_leafS {B : Nat} {w : World} {op n : Int} {s : ByteArray} (h : s.size ≤ 4611686018427387904) (hop : -9223372036854775808 ≤ op ∧ op ≤ 9223372036854775807) : NdC B w (.mk op (bl s) n 0 0 0 []) [.int .i64 op, .string s, .int .i64 n, .bool false, .slice none 0 0, .int .i64 0, .int .i64 0, .slice none 0 0] := by
  rw [encS_of]
  exact nd_leaf ⟨by simpa using h, hop.1, hop.2⟩
theorem bdLeaf2 {B : Nat} {op : Int} {s : ByteArray} {e : Ex} {x0 x1 : Operand} (h0 : Od ops ds a0 w0 L i x0 (IsV (.int .i64 op))) (h1 : Od ops ds a0 w0 L i x1 (IsV (.string s))) (he : (op = 11 ∧ e = .var s) ∨ (op = 2 ∧ e = .cell s)) (hs : s.size ≤ 4611686018427387904)
    (ho : o.op = .build 32 #[(0, x0), (1, x1)] := by rfl) (hi : L.getD i (fun _ _ => True) = NeL B e := by kernel_rfl) (hb : boxes.contains i = false := by kernel_rfl) : Ok Tryz.prog ops Q ds a0 w0 L boxes i o :=
  bdG2 ho hi hb fun v a w hE hd hf => by
    have e0 : a.eval x0 = .int .i64 op := h0.out v a w hE hd hf
    have e1 : a.eval x1 = .string s := h1.out v a w hE hd hf
    have hr : (Instr.build 32 #[(0, .int .i64 op), (1, .string s)]).run Tryz.prog w = .ok (.agg #[.int .i64 op, .string s, .int .i64 0, .bool false, .slice none 0 0, .int .i64 0, .int .i64 0, .slice none 0 0]) w := by go_simp
    refine ⟨_, by simp only [List.map_toArray, List.map_cons, List.map_nil]; rw [e0, e1]; exact hr, _, rfl, rfl, rfl, nwNd, ?_⟩
    rcases he with ⟨rfl, rfl⟩ | ⟨rfl, rfl⟩ <;> exact nd_leafS hs (by decide)
end
section
variable {ops : Array Oper} {Q : Exit → Act → World → Prop} {ds : List (Option Tmp)} {a0 : Act} {w0 : World} {L : List (Value → World → Prop)} {boxes : List Nat} {i k : Nat} {o : Oper} {os : List Oper}
end
theorem RwgS.zero (w : World) {base : Nat} (hb : base ≤ w.heap.size) : Rwg 9 1 base (w.alloc (.cells #[] 9)) (.slice (some ⟨w.heap.size, 0, none⟩) 0 0) 0 [] := by
  refine ⟨by simp, .inr ⟨w.heap.size, 0, #[], rfl, hb, World.alloc_heap_new _ _, ?_, ?_, ?_, ?_⟩⟩
  all_goals simp
end Go.Proofs.YtenhciieboegbaaGreatDoor
namespace Go.Proofs.YtenhciieboegbaaGreatDoor
open Go Go.RowKit Go.Maps
theorem RwC.zero (w : World) : RwK 34 9 w.heap.size [] (.slice (some ⟨w.heap.size, 0, none⟩) 0 0) (w.alloc (.cells #[] 34)) := by
  refine ⟨⟨by simp, .inr ⟨w.heap.size, 0, #[], rfl, Nat.le_refl _, World.alloc_heap_new _ _, ?_, ?_, ?_, ?_⟩⟩, fun g cs e fz h ho => ?_⟩
  · simp
  · simp
  · simp
  · simp
  · obtain rfl : w.heap.size = g := by injection h
    rw [World.alloc_heap_new] at ho
    cases ho
    intro u hu
    simp at hu
section
variable {ops : Array Oper} {Q : Exit → Act → World → Prop} {ds : List (Option Tmp)} {a0 : Act} {w0 : World} {L : List (Value → World → Prop)} {boxes : List Nat} {i k : Nat} {o : Oper} {os : List Oper}
theorem asA {P : Program} {fuel : Nat} {listed : Array Bool} {a : Act} {w : World} (j t : Nat) (x : Operand) (u : Value) (hu : a.eval x = u) (h : wpAny P .any ops Q fuel (listed.setIfInBounds j true) (a.put (some t) u) w) (ho : ops[j]? = some o := by rfl) (hd : o.dst = some t := by rfl) (hop : o.op = .assign x ∨ o.op = .move x := by first | exact .inl rfl | exact .inr rfl)
    (hr : Region.ready .any ops listed = [j] := by kernel_rfl) (hg : o.guard = none := by rfl) : wpAny P .any ops Q (fuel + 1) listed a w :=
  stA j ho (fun K hK => by
    unfold Oper.wp execOp
    subst hu
    rw [← hd] at h
    rcases hop with e | e <;> rw [e] <;> exact hK _ _ h) hr hg
end
end Go.Proofs.YtenhciieboegbaaGreatDoor
