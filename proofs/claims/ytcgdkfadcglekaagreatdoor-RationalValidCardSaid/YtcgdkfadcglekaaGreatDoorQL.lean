/-
  Whether an interval has a number: Has of both packages. Guards that are not known. (Printed by wip/gen/rat12.py, parted by hand.)
  Rows of fractions in memory. (Printed by wip/gen/rat9.py, parted by hand.)
-/
import Derived.Test.YtcgdkfadcglekaaGreatDoorQ3
import Derived.Test.YtcgdkfadcglekaaGreatDoorSto
namespace Go.Proofs.YtcgdkfadcglekaaGreatDoor
open Go Go.RowKit
theorem RetB {w w' : World} {vs : Ending} {b b' : Bool} (h : Ret w (IsV (.bool b)) vs w') (e : b = b') : Ret w (IsV (.bool b')) vs w' := e ▸ h

/-- A fact of a guarded operation whose guard is a letter. -/
def IsIf (b : Bool) (Φ : Value → World → Prop) : Value → World → Prop := fun x w => bif b then Φ x w else x = undef
theorem IsIf.stb {b : Bool} {Φ : Value → World → Prop} (h : Stb Φ) : Stb (IsIf b Φ) := fun x w w' e k => by
  cases b
  · exact k
  · exact h x w w' e k
section
variable {P : Program} {ops : Array Oper} {Q : Exit → Act → World → Prop} {ds : List (Option Tmp)} {a0 : Act} {w0 : World} {L : List (Value → World → Prop)} {boxes : List Nat} {i k : Nat} {o : Oper} {os : List Oper}
end

section
variable {ops : Array Oper} {Q : Exit → Act → World → Prop} {ds : List (Option Tmp)} {a0 : Act} {w0 : World} {L : List (Value → World → Prop)} {boxes : List Nat} {i : Nat} {o : Oper}
end

end Go.Proofs.YtcgdkfadcglekaaGreatDoor
namespace Go.Proofs.YtcgdkfadcglekaaGreatDoor
open Go Go.RowKit

/-- A row of fractions that stands in memory: of at most K words each. -/
def IsL (K : Nat) (qs : List Rat) : Value → World → Prop := fun x w => ∃ g, x = .slice (some ⟨g, 0, none⟩) qs.length qs.length ∧ g < w.heap.size ∧
  ∀ j q, qs[j]? = some q → (∃ s a n c, Bo w g (2 * j) s a n c ∧ IsI K q.num (.agg #[.bool s, .slice a n c]) w) ∧ ∃ s a n c, Bo w g (2 * j + 1) s a n c ∧ IsI K (q.den : Int) (.agg #[.bool s, .slice a n c]) w
theorem IsL.stb (K : Nat) (qs : List Rat) : Stb (IsL K qs) := fun _ _ _ e ⟨g, h1, h2, h3⟩ => ⟨g, h1, Nat.lt_of_lt_of_le h2 e.size, fun j q hq =>
  let ⟨⟨s, a, n, c, b, k⟩, s', a', n', c', b', k'⟩ := h3 j q hq; ⟨⟨s, a, n, c, b.ext e, k.ext e⟩, s', a', n', c', b'.ext e, k'.ext e⟩⟩
theorem IsL.ext {K : Nat} {qs : List Rat} {x : Value} {w w' : World} (h : IsL K qs x w) (e : Ext w w') : IsL K qs x w' := IsL.stb K qs _ _ _ e h
section
variable {P : Program} {ops : Array Oper} {Q : Exit → Act → World → Prop} {ds : List (Option Tmp)} {a0 : Act} {w0 : World} {L : List (Value → World → Prop)} {boxes : List Nat} {i k : Nat} {o : Oper} {os : List Oper}
/-- The address of a member. -/
theorem ix {x y : Operand} {T : Nat} {p u r : Value} (hr : ∀ w, (Instr.indexAt T p u).run P w = .ok r w) (hx : Od ops ds a0 w0 L i x (IsV p)) (hy : Od ops ds a0 w0 L i y (IsV u)) (ho : o.op = .indexAddr T x y := by rfl) (hi : L.getD i (fun _ _ => True) = IsV r := by kernel_rfl) (hb : boxes.contains i = false := by kernel_rfl) : Ok P ops Q ds a0 w0 L boxes i o :=
  Ok.of hb fun v a w hE hd hf => by
    have h1 : a.eval x = p := hx.out v a w hE hd hf
    have h2 : a.eval y = u := hy.out v a w hE hd hf
    refine ⟨r, ?_, by rw [hi]; exact rfl⟩
    have := hr w
    unfold execOp
    rw [ho]
    dsimp only
    rw [h1, h2]
    simp [this]
/-- A fraction that stands somewhere in memory. -/
theorem ldX {g q T : Nat} {x : Operand} {Φ Ψ : Value → World → Prop} (h : ∀ w, Ext w0 w → (∃ s a n c, Bo w g q s a n c ∧ Φ (.agg #[.bool s, .slice a n c]) w) ∧ ∃ s a n c, Bo w g (q + 1) s a n c ∧ Ψ (.agg #[.bool s, .slice a n c]) w)
    (hx : Od ops ds a0 w0 L i x (IsV (.pointer (some ⟨g, 2 * q, none⟩)))) (hT : LdQ P T) (ho : o.op = .load T x := by rfl) (hi : L.getD i (fun _ _ => True) = IsQ Φ Ψ := by kernel_rfl) (hb : boxes.contains i = false := by kernel_rfl) : Ok P ops Q ds a0 w0 L boxes i o :=
  Ok.of hb fun v a w hE hd hf => by
    have h0 : a.eval x = _ := hx.out v a w hE hd hf
    obtain ⟨⟨s, a1, n, c, b, k1⟩, s', a1', n', c', b', k2⟩ := h w hE
    exact ⟨_, ld_run ho h0 (hT w g (2 * q) _ _ _ _ _ _ _ _ b.c0 b.c1 b'.c0 b'.c1), by rw [hi]; exact ⟨_, _, _, _, _, _, _, _, rfl, k1, k2⟩⟩
end
set_option maxRecDepth 100000 in
theorem ix_Rat (g n c j : Nat) (h : j < n) (w : World) : (Instr.indexAt 59 (.slice (some ⟨g, 0, none⟩) n c) (.int .i64 (j : Nat))).run Tryz.prog w = .ok (.pointer (some ⟨g, 2 * (2 * j), none⟩)) w := by
  have h1 : (0 : Int) ≤ (j : Int) := by omega
  have h2 : (j : Int) < (n : Int) := by omega
  have h3 : 0 + j * 4 = 2 * (2 * j) := by omega
  have h4 : j * 4 = 2 * (2 * j) := by omega
  go_simp
theorem Bo.newAt (w : World) (cs : Array Value) (T : TypeId) (i : Nat) (s : Bool) (a : Option Addr) (n c : Nat) (h0 : cs[2 * i]? = some (.bool s)) (h1 : cs[2 * i + 1]? = some (.slice a n c)) : Bo (w.alloc (.cells cs T)) w.heap.size i s a n c := ⟨by simp [h0], by simp [h1], by simp, by simp⟩
section
variable {ops : Array Oper} {Q : Exit → Act → World → Prop} {ds : List (Option Tmp)} {a0 : Act} {w0 : World} {L : List (Value → World → Prop)} {boxes : List Nat} {i : Nat} {o : Oper}
theorem bS4 {x1 x2 x3 x4 : Operand} {K k1 k2 k3 k4 : Nat} {p1 p2 p3 p4 : Rat} (hx1 : Od ops ds a0 w0 L i x1 (IsRat k1 p1)) (hx2 : Od ops ds a0 w0 L i x2 (IsRat k2 p2)) (hx3 : Od ops ds a0 w0 L i x3 (IsRat k3 p3)) (hx4 : Od ops ds a0 w0 L i x4 (IsRat k4 p4)) (l1 : k1 ≤ K) (l2 : k2 ≤ K) (l3 : k3 ≤ K) (l4 : k4 ≤ K)
    (ho : o.op = .buildSlice 59 4 #[(0, x1), (1, x2), (2, x3), (3, x4)] := by rfl) (hi : L.getD i (fun _ _ => True) = IsL K [p1, p2, p3, p4] := by kernel_rfl) (hb : boxes.contains i = false := by kernel_rfl) : Ok Tryz.prog ops Q ds a0 w0 L boxes i o :=
  ⟨fun v a w hE hd hf K' hK => by
    obtain ⟨s1, a1, n1, c1, t1, d1, m1, e1, q1, h1, g1⟩ := hx1.out v a w hE hd hf
    obtain ⟨s2, a2, n2, c2, t2, d2, m2, e2, q2, h2, g2⟩ := hx2.out v a w hE hd hf
    obtain ⟨s3, a3, n3, c3, t3, d3, m3, e3, q3, h3, g3⟩ := hx3.out v a w hE hd hf
    obtain ⟨s4, a4, n4, c4, t4, d4, m4, e4, q4, h4, g4⟩ := hx4.out v a w hE hd hf
    have hr : (Instr.buildSlice 59 4 #[(0, .agg #[.bool s1, .slice a1 n1 c1, .bool t1, .slice d1 m1 e1]), (1, .agg #[.bool s2, .slice a2 n2 c2, .bool t2, .slice d2 m2 e2]), (2, .agg #[.bool s3, .slice a3 n3 c3, .bool t3, .slice d3 m3 e3]), (3, .agg #[.bool s4, .slice a4 n4 c4, .bool t4, .slice d4 m4 e4])]).run Tryz.prog w = .ok (.slice (some ⟨w.heap.size, 0, none⟩) 4 4) (w.alloc (.cells #[.bool s1, .slice a1 n1 c1, .bool t1, .slice d1 m1 e1, .bool s2, .slice a2 n2 c2, .bool t2, .slice d2 m2 e2, .bool s3, .slice a3 n3 c3, .bool t3, .slice d3 m3 e3, .bool s4, .slice a4 n4 c4, .bool t4, .slice d4 m4 e4] 31)) := by go_simp
    have hrun : (execOp a.eval o).run Tryz.prog w = .ok (.value (.slice (some ⟨w.heap.size, 0, none⟩) 4 4)) (w.alloc (.cells #[.bool s1, .slice a1 n1 c1, .bool t1, .slice d1 m1 e1, .bool s2, .slice a2 n2 c2, .bool t2, .slice d2 m2 e2, .bool s3, .slice a3 n3 c3, .bool t3, .slice d3 m3 e3, .bool s4, .slice a4 n4 c4, .bool t4, .slice d4 m4 e4] 31)) := by
      unfold execOp
      rw [ho]
      dsimp only
      simp only [List.map_toArray, List.map_cons, List.map_nil]
      rw [q1, q2, q3, q4]
      simp [hr]
    unfold Oper.wp
    rw [hrun]
    have e9 : Ext w (w.alloc (.cells #[.bool s1, .slice a1 n1 c1, .bool t1, .slice d1 m1 e1, .bool s2, .slice a2 n2 c2, .bool t2, .slice d2 m2 e2, .bool s3, .slice a3 n3 c3, .bool t3, .slice d3 m3 e3, .bool s4, .slice a4 n4 c4, .bool t4, .slice d4 m4 e4] 31)) := (Ext.refl _).alloc _
    refine hK.out _ _ e9 ?_ (FreshIf.no hb)
    rw [hi]
    refine ⟨_, rfl, by simp, fun j q hq => ?_⟩
    rcases j with _ | _ | _ | _ | j
    · obtain rfl : p1 = q := by simpa using hq
      exact ⟨⟨_, _, _, _, Bo.newAt _ _ _ _ _ _ _ _ rfl rfl, (h1.mono l1).ext e9⟩, _, _, _, _, Bo.newAt _ _ _ _ _ _ _ _ rfl rfl, (g1.mono l1).ext e9⟩
    · obtain rfl : p2 = q := by simpa using hq
      exact ⟨⟨_, _, _, _, Bo.newAt _ _ _ _ _ _ _ _ rfl rfl, (h2.mono l2).ext e9⟩, _, _, _, _, Bo.newAt _ _ _ _ _ _ _ _ rfl rfl, (g2.mono l2).ext e9⟩
    · obtain rfl : p3 = q := by simpa using hq
      exact ⟨⟨_, _, _, _, Bo.newAt _ _ _ _ _ _ _ _ rfl rfl, (h3.mono l3).ext e9⟩, _, _, _, _, Bo.newAt _ _ _ _ _ _ _ _ rfl rfl, (g3.mono l3).ext e9⟩
    · obtain rfl : p4 = q := by simpa using hq
      exact ⟨⟨_, _, _, _, Bo.newAt _ _ _ _ _ _ _ _ rfl rfl, (h4.mono l4).ext e9⟩, _, _, _, _, Bo.newAt _ _ _ _ _ _ _ _ rfl rfl, (g4.mono l4).ext e9⟩
    · simp at hq⟩
end
end Go.Proofs.YtcgdkfadcglekaaGreatDoor
