/-
 Package quadratic: product, Disc, isSquare, Check, Reduced at a reduced form. (Printed by wip/gen/den27.py.)
 The fixed calls of the laws of package density. (Printed by wip/gen/den17.py.)
-/
import Derived.Test.YtknffgdbdadpcaaGreatDoorDen23
import Derived.Test.YtknffgdbdadpcaaGreatDoorFact
import Derived.Test.YtknffgdbdadpcaaGreatDoorDen16
namespace Go.Proofs.YtknffgdbdadpcaaGreatDoor
open Go Go.RowKit

/-- A row of integers that stands in memory: of at most K words each. -/
def IsLi (K : Nat) (zs : List Int) : Value → World → Prop := fun x w => ∃ g, x = .slice (some ⟨g, 0, none⟩) zs.length zs.length ∧
 ∀ j z, zs[j]? = some z → ∃ s a n c, Bo w g j s a n c ∧ IsI K z (.agg #[.bool s, .slice a n c]) w
theorem IsLi.stb (K : Nat) (zs : List Int) : Stb (IsLi K zs) := fun _ _ _ e ⟨g, h1, h3⟩ => ⟨g, h1, fun j z hj => let ⟨s, a, n, c, b, k⟩ := h3 j z hj; ⟨s, a, n, c, b.ext e, k.ext e⟩⟩
section
variable {ops : Array Oper} {Q : Exit → Act → World → Prop} {ds : List (Option Tmp)} {a0 : Act} {w0 : World} {L : List (Value → World → Prop)} {boxes : List Nat} {i : Nat} {o : Oper}
theorem Bo.newI (w : World) (cs : Array Value) (T : TypeId) (i : Nat) (s : Bool) (a : Option Addr) (n c : Nat) (h0 : cs[2 * i]? = some (.bool s)) (h1 : cs[2 * i + 1]? = some (.slice a n c)) : Bo (w.alloc (.cells cs T)) w.heap.size i s a n c := ⟨by simp [h0], by simp [h1], by simp, by simp⟩
set_option maxRecDepth 100000
theorem bI2 {x1 x2 : Operand} {K k1 k2 : Nat} {z1 z2 : Int} (hx1 : Od ops ds a0 w0 L i x1 (IsI k1 z1)) (hx2 : Od ops ds a0 w0 L i x2 (IsI k2 z2)) (l1 : k1 ≤ K) (l2 : k2 ≤ K)
  (ho : o.op = .buildSlice 36 2 #[(0, x1), (1, x2)] := by rfl) (hi : L.getD i (fun _ _ => True) = IsLi K [z1, z2] := by kernel_rfl) (hb : boxes.contains i = false := by kernel_rfl) : Ok Tryz.prog ops Q ds a0 w0 L boxes i o :=
 ⟨fun v a w hE hd hf K' hK => by
  obtain ⟨s1, a1, n1, c1, q1, h1⟩ := hx1.out v a w hE hd hf
  obtain ⟨s2, a2, n2, c2, q2, h2⟩ := hx2.out v a w hE hd hf
  have hr : (Instr.buildSlice 36 2 #[(0, .agg #[.bool s1, .slice a1 n1 c1]), (1, .agg #[.bool s2, .slice a2 n2 c2])]).run Tryz.prog w = .ok (.slice (some ⟨w.heap.size, 0, none⟩) 2 2) (w.alloc (.cells #[.bool s1, .slice a1 n1 c1, .bool s2, .slice a2 n2 c2] 33)) := by go_simp
  have hrun : (execOp a.eval o).run Tryz.prog w = .ok (.value (.slice (some ⟨w.heap.size, 0, none⟩) 2 2)) (w.alloc (.cells #[.bool s1, .slice a1 n1 c1, .bool s2, .slice a2 n2 c2] 33)) := by
   unfold execOp
   rw [ho]
   dsimp only
   simp only [List.map_toArray, List.map_cons, List.map_nil]
   rw [q1, q2]
   simp [hr]
  unfold Oper.wp
  rw [hrun]
  have e9 : Ext w (w.alloc (.cells #[.bool s1, .slice a1 n1 c1, .bool s2, .slice a2 n2 c2] 33)) := (Ext.refl _).alloc _
  refine hK.out _ _ e9 ?_ (FreshIf.no hb)
  rw [hi]
  refine ⟨_, rfl, fun j q hq => ?_⟩
  rcases j with _ | _ | j
  ·obtain rfl : z1 = q := by simpa using hq
   exact ⟨_, _, _, _, Bo.newI _ _ _ _ _ _ _ _ rfl rfl, (IsI.ext ⟨_, _, _, _, rfl, h1.mono l1⟩ e9)⟩
  ·obtain rfl : z2 = q := by simpa using hq
   exact ⟨_, _, _, _, Bo.newI _ _ _ _ _ _ _ _ rfl rfl, (IsI.ext ⟨_, _, _, _, rfl, h2.mono l2⟩ e9)⟩
  ·simp at hq⟩
end

section
variable (w : World) (s0 s1 s2 : Bool) (a0 a1 a2 : Option Addr) (n0 c0 n1 c1 n2 c2 : Nat)
end

end Go.Proofs.YtknffgdbdadpcaaGreatDoor
namespace Go.Proofs.YtknffgdbdadpcaaGreatDoor
open Go Go.RowKit

def LdC (P : Program) (T : TypeId) (v : Value) : Prop := ∀ (w : World) (b : Addr), World.cell? w b = some v → (Instr.loadAt T (.pointer (some b))).run P w = .ok v w
theorem ldc_parts (ao : Option Addr) (n c : Nat) : LdC Tryz.prog 44 (.slice ao n c) := fun w b h => by go_simp
theorem ldc_str (s : ByteArray) : LdC Tryz.prog 9 (.string s) := fun w b h => by go_simp
theorem fa_Au0 (g : Nat) (w : World) : (Instr.fieldAt 48 (.pointer (some ⟨g, 0, none⟩)) 0).run Tryz.prog w = .ok (.pointer (some ⟨g, 0, none⟩)) w := by go_simp
theorem fa_Au1 (g : Nat) (w : World) : (Instr.fieldAt 48 (.pointer (some ⟨g, 0, none⟩)) 1).run Tryz.prog w = .ok (.pointer (some ⟨g, 1, none⟩)) w := by go_simp
theorem fa_Pt0 (g : Nat) (w : World) : (Instr.fieldAt 74 (.pointer (some ⟨g, 0, none⟩)) 0).run Tryz.prog w = .ok (.pointer (some ⟨g, 0, none⟩)) w := by go_simp
theorem ix_Pt (g : Nat) (w : World) : (Instr.indexAt 44 (.slice (some ⟨g, 0, none⟩) 1 1) (.int .i64 0)).run Tryz.prog w = .ok (.pointer (some ⟨g, 0, none⟩)) w := by go_simp
section
variable {ops : Array Oper} {Q : Exit → Act → World → Prop} {ds : List (Option Tmp)} {a0 : Act} {w0 : World} {L : List (Value → World → Prop)} {boxes : List Nat} {i : Nat} {o : Oper}
theorem ldCc {b : Addr} {v : Value} {T : Nat} {x : Operand} (hc : World.cell? w0 b = some v) (hT : LdC Tryz.prog T v) (hx : Od ops ds a0 w0 L i x (IsV (.pointer (some b)))) (ho : o.op = .load T x := by rfl) (hi : L.getD i (fun _ _ => True) = IsV v := by kernel_rfl) (hb : boxes.contains i = false := by kernel_rfl) : Ok Tryz.prog ops Q ds a0 w0 L boxes i o :=
 Ok.of hb fun v' a w hE hd hf => by
  have h : a.eval x = _ := hx.out v' a w hE hd hf
  exact ⟨_, ld_run ho h (hT w b (hE.cell hc)), by rw [hi]; exact rfl⟩
/-- A fraction that lies in four cells. -/
theorem ldRt {b f K : Nat} {q : Rat} {s s' : Bool} {a1 a1' : Option Addr} {n c n' c' : Nat} {x : Operand} (h0 : World.cell? w0 ⟨b, f, none⟩ = some (.bool s)) (h1 : World.cell? w0 ⟨b, f + 1, none⟩ = some (.slice a1 n c)) (h2 : World.cell? w0 ⟨b, f + 2, none⟩ = some (.bool s')) (h3 : World.cell? w0 ⟨b, f + 3, none⟩ = some (.slice a1' n' c'))
  (hq : IsRat K q (.agg #[.bool s, .slice a1 n c, .bool s', .slice a1' n' c']) w0) (hx : Od ops ds a0 w0 L i x (IsV (.pointer (some ⟨b, f, none⟩)))) (ho : o.op = .load 46 x := by rfl) (hi : L.getD i (fun _ _ => True) = IsRat K q := by kernel_rfl) (hb : boxes.contains i = false := by kernel_rfl) : Ok Tryz.prog ops Q ds a0 w0 L boxes i o :=
 Ok.of hb fun v' a w hE hd hf => by
  have h : a.eval x = _ := hx.out v' a w hE hd hf
  exact ⟨_, ld_run ho h (ld_Rat w b f _ _ _ _ _ _ _ _ (hE.cell h0) (hE.cell h1) (hE.cell h2) (hE.cell h3)), by rw [hi]; exact IsQ.stb (IsI.stb _ _) (IsI.stb _ _) _ _ _ hE hq⟩
end

theorem exT_1 {x y : Value} {w : World} (hs : Sg w) (hx : IsI 2 (-23) x w) (hy : IsI 2 2 y w) : Calls Tryz.prog 12 #[x, y] w (Ret w (IsT2 (IsV (.int .i64 4)) (IsV (.int .i64 0)))) := by
 have h := Total_f (n := 23) (L := 4) hx hy ⟨by decide, by decide⟩ hs (by decide) (by decide)
 rw [show totE 23 4 2 = 4 by decide +kernel, show unsE (cdB 23 4) 2 = 0 by decide +kernel] at h
 exact h
theorem exT_2 {x y : Value} {w : World} (hs : Sg w) (hx : IsI 2 (-4) x w) (hy : IsI 2 5 y w) : Calls Tryz.prog 12 #[x, y] w (Ret w (IsT2 (IsV (.int .i64 8)) (IsV (.int .i64 0)))) := by
 have h := Total_f (n := 4) (L := 2) hx hy ⟨by decide, by decide⟩ hs (by decide) (by decide)
 rw [show totE 4 2 5 = 8 by decide +kernel, show unsE (cdB 4 2) 5 = 0 by decide +kernel] at h
 exact h
theorem exT_3 {x y : Value} {w : World} (hs : Sg w) (hx : IsI 2 (-4) x w) (hy : IsI 2 3 y w) : Calls Tryz.prog 12 #[x, y] w (Ret w (IsT2 (IsV (.int .i64 0)) (IsV (.int .i64 0)))) := by
 have h := Total_f (n := 4) (L := 2) hx hy ⟨by decide, by decide⟩ hs (by decide) (by decide)
 rw [show totE 4 2 3 = 0 by decide +kernel, show unsE (cdB 4 2) 3 = 0 by decide +kernel] at h
 exact h
theorem exT_4 {x y : Value} {w : World} (hs : Sg w) (hx : IsI 2 (-4) x w) (hy : IsI 2 9 y w) : Calls Tryz.prog 12 #[x, y] w (Ret w (IsT2 (IsV (.int .i64 4)) (IsV (.int .i64 0)))) := by
 have h := Total_f (n := 4) (L := 2) hx hy ⟨by decide, by decide⟩ hs (by decide) (by decide)
 rw [show totE 4 2 9 = 4 by decide +kernel, show unsE (cdB 4 2) 9 = 0 by decide +kernel] at h
 exact h
theorem exT_5 {x y : Value} {w : World} (hs : Sg w) (hx : IsI 2 (-12) x w) (hy : IsI 2 2 y w) : Calls Tryz.prog 12 #[x, y] w (Ret w (IsT2 (IsV (.int .i64 0)) (IsV (.int .i64 1)))) := by
 have h := Total_f (n := 12) (L := 3) hx hy ⟨by decide, by decide⟩ hs (by decide) (by decide)
 rw [show totE 12 3 2 = 0 by decide +kernel, show unsE (cdB 12 3) 2 = 1 by decide +kernel] at h
 exact h
theorem exT_6 {x y : Value} {w : World} (hs : Sg w) (hx : IsI 2 (-23) x w) (hy : IsI 2 0 y w) : Calls Tryz.prog 12 #[x, y] w (Ret w (IsT2 (IsV (.int .i64 0)) (IsV (.int .i64 1)))) := by
 have h := Total_f (n := 23) (L := 4) hx hy ⟨by decide, by decide⟩ hs (by decide) (by decide)
 rw [show totE 23 4 0 = 0 by decide +kernel, show unsE (cdB 23 4) 0 = 1 by decide +kernel] at h
 exact h
theorem prime2 : Pr 2 := by
 refine ⟨by decide, fun d hd => ?_⟩
 have h1 := Nat.le_of_dvd (by decide) hd
 rcases (show d = 0 ∨ d = 1 ∨ d = 2 by omega) with rfl | rfl | rfl
 ·exact absurd hd (by decide)
 ·exact .inl rfl
 ·exact .inr rfl
theorem exL {x y : Value} {w : World} (hs : Sg w) (hx : IsI 2 (-23) x w) (hy : IsI 2 2 y w) : Calls Tryz.prog 10 #[x, y, .int .i64 2] w (Ret w (IsT2 (IsV (.int .i64 2)) (IsV (.int .i64 0)))) := by
 have h := Local_k (n := 23) (L := 4) (m := 2) (p := 2) (hid rfl) hx hy ⟨by decide, by decide⟩ hs (by decide) (by decide) (by decide +kernel) (by decide) prime2 (by decide) (fun x w hx => Is_b 0 (by decide) hx)
 rw [show locg (kr (-((23 : Nat) : Int))) 2 (vl 2 2) = 2 by decide +kernel] at h
 exact h
theorem exG {x y : Value} {w : World} (hs : Sg w) (hx : IsI 2 (-20) x w) (hy : IsI 2 3 y w) : Calls Tryz.prog 14 #[x, y] w (Ret w (IsT2 (IRx [-1, -1]) (IsV (.int .i64 0)))) := by
 have h := Genus_k (n := 20) (L := 4) (m := 3) (gg := 1) hx hy (hid ⟨by decide, by decide⟩) (hid (by decide)) (hid (by decide)) (hid rfl) (hid (by decide +kernel)) (hid (by decide +kernel)) (hid rfl) (hid (by decide +kernel)) (hid rfl) (hid (by decide)) (hid hs)
 rw [show (chN 20).map (fun c => chV c 3) = [-1, -1] by decide +kernel] at h
 exact h
theorem ex_t23 : encS (textS (-23)) = .string ⟨#[45, 50, 51]⟩ ∧ textE (-23) = 0 ∧ (⟨#[45, 50, 51]⟩ : ByteArray).size ≤ 1000 := ⟨by rw [show textS (-23) = [45, 50, 51] by decide +kernel]; rfl, by decide +kernel, by decide⟩
theorem ex_t2 : encS (textS 2) = .string ⟨#[50]⟩ ∧ textE 2 = 0 ∧ (⟨#[50]⟩ : ByteArray).size ≤ 1000 := ⟨by rw [show textS 2 = [50] by decide +kernel]; rfl, by decide +kernel, by decide⟩
theorem exC {x : Value} {w : World} (ht : Tab w) (hs : Sg w) (hx : IsI 2 (-23) x w) : Calls Tryz.prog 18 #[x] w (Ret w (IsT2 (AuV ⟨#[99, 58, 45, 50, 51]⟩ 4 1 3) (IsV (.int .i64 0)))) := by
 have h := Class_k (n := 23) (L := 4) hx (hid (by decide)) (hid (by decide)) (hid rfl) (hid (by decide +kernel)) (hid rfl) (hid (by decide +kernel)) (hid (by decide)) (hid rfl) (hid (by decide +kernel)) (hid (by decide)) (hid ht) ⟨#[45, 50, 51]⟩ (hid ex_t23) (hid hs)
 rw [show (⟨#[99, 58]⟩ ++ ⟨#[45, 50, 51]⟩ : ByteArray) = ⟨#[99, 58, 45, 50, 51]⟩ by decide +kernel, show Rat.divInt ((clsS (-((23 : Nat) : Int)) 23).tdiv ((23 : Nat) : Int)) 1 = 3 by decide +kernel] at h
 exact h
theorem exC2 {x : Value} {w : World} (hx : IsI 2 (-12) x w) : Calls Tryz.prog 18 #[x] w (Ret w (IsT2 (IsV auNil) (IsV (.int .i64 5)))) :=
 Class_n (n := 12) (L := 3) hx (hid (by decide)) (hid (by decide)) (hid rfl) (hid (by decide +kernel)) (hid rfl) (hid (by decide +kernel)) (hid (by decide)) (hid rfl) (hid (by decide +kernel))
theorem exA {x y : Value} {w : World} (ht : Tab w) (hs : Sg w) (hx : IsI 2 (-23) x w) (hy : IsI 2 2 y w) : Calls Tryz.prog 16 #[x, y] w (Ret w (IsT2 (AuV ⟨#[115, 58, 45, 50, 51, 58, 50]⟩ 4 1 4) (IsV (.int .i64 0)))) := by
 have h := Audit_k (n := 23) (L := 4) (te := 4) hx hy (hid ⟨by decide, by decide⟩) (hid hs) (hid (by decide)) (hid (by decide)) (hid rfl) (hid (by decide +kernel)) (hid (by decide +kernel)) (hid rfl) (hid (by decide +kernel)) (hid ht) ⟨#[45, 50, 51]⟩ ⟨#[50]⟩ (hid ex_t23) (hid ex_t2) (hid (by decide))
 rw [show (⟨#[115, 58]⟩ ++ ⟨#[45, 50, 51]⟩ ++ ⟨#[58]⟩ ++ ⟨#[50]⟩ : ByteArray) = ⟨#[115, 58, 45, 50, 51, 58, 50]⟩ by decide +kernel, show Rat.divInt 4 1 = 4 by decide +kernel] at h
 exact h
theorem exP {x y : Value} {w : World} (hx : IsI 2 23 x w) (hy : IsI 2 2 y w) : Calls Tryz.prog 12 #[x, y] w (Ret w (IsT2 (IsV (.int .i64 0)) (IsV (.int .i64 5)))) := Total_p hx hy (hid (by decide)) (hid (by decide))

set_option maxRecDepth 100000 in
set_option maxHeartbeats 8000000 in
theorem examplesD_f (w : World) (ht : Tab w) (hs : Sg w) : Calls Tryz.prog 7 #[] w (Ret w (IsV (.bool true))) := by
 obtain ⟨W, hW, S⟩ : ∃ W, W = w ∧ Sto w W [] := ⟨_, rfl, (Sto.start w)⟩
 go_enter Tryz.func7, Tryz.ntmps7
 go_upto_region 1 with (fail)
 rw [← hW]
 clear hW
 refine rgs 8 [some 26, some 27, some 28, some 25, some 29, some 30, some 1, some 2] [IsI 2 (-23), IsI 2 2, IsT2 (IsV (.int .i64 2)) (IsV (.int .i64 0)), IsT2 (IsV (.int .i64 2)) (IsV (.int .i64 0)), IsV (.int .i64 2), IsV (.int .i64 0), IsV (.int .i64 2), IsV (.int .i64 0)] [] ?_ ?_
 ·refine Rc (cl1 (en Tryz.func22) Od.con (fun x0 w' hE d0 => by { obtain rfl : x0 = .int .i64 (-23) := d0; exact ROf_f w' (-23) (by decide) (by decide) })) ?_
  refine Rc (cl1 (en Tryz.func22) Od.con (fun x0 w' hE d0 => by { obtain rfl : x0 = .int .i64 2 := d0; exact ROf_f w' (2) (by decide) (by decide) })) ?_
  refine Rc (cl3 (en Tryz.func10) (Od.lc (Φ := IsI 2 (-23)) 0 26) (Od.lc (Φ := IsI 2 2) 1 27) Od.con (fun x0 x1 x2 w' hE d0 d1 d2 => by { obtain rfl : x2 = .int .i64 2 := d2; exact exL (hs.ext (S.ext.trans hE)) d0 d1 })) ?_
  refine Rc (mv (Od.lc 2 28)) ?_
  refine Rc (ex (Od.loc 3 25) t20) ?_
  refine Rc (ex (Od.loc 3 25) t21) ?_
  refine Rc (mv (Od.lc 4 29)) ?_
  refine Rc (mv (Od.lc 5 30)) ?_
  exact RgAll.nil
 intro v W1 e1 hΦ _
 replace S := S.mono e1
 have v6 : v 6 = .int .i64 2 := hΦ 6 (by decide)
 have v7 : v 7 = .int .i64 0 := hΦ 7 (by decide)
 simp only [layL, Act.put, uAx, u0x, u1x, Nat.reduceAdd]
 rw [v6, v7]
 clear v6 v7 hΦ e1
 refine wpList_nil ?_
 go_upto_region 2 with (fail)
 refine rgs 8 [some 32, some 33, some 34, some 31, some 35, some 36, some 3, some 4] [IsI 2 (-23), IsI 2 2, IsT2 (IsV (.int .i64 4)) (IsV (.int .i64 0)), IsT2 (IsV (.int .i64 4)) (IsV (.int .i64 0)), IsV (.int .i64 4), IsV (.int .i64 0), IsV (.int .i64 4), IsV (.int .i64 0)] [] ?_ ?_
 ·refine Rc (cl1 (en Tryz.func22) Od.con (fun x0 w' hE d0 => by { obtain rfl : x0 = .int .i64 (-23) := d0; exact ROf_f w' (-23) (by decide) (by decide) })) ?_
  refine Rc (cl1 (en Tryz.func22) Od.con (fun x0 w' hE d0 => by { obtain rfl : x0 = .int .i64 2 := d0; exact ROf_f w' (2) (by decide) (by decide) })) ?_
  refine Rc (cl2 (en Tryz.func12) (Od.lc (Φ := IsI 2 (-23)) 0 32) (Od.lc (Φ := IsI 2 2) 1 33) (fun x0 x1 w' hE d0 d1 => exT_1 (hs.ext (S.ext.trans hE)) d0 d1)) ?_
  refine Rc (mv (Od.lc 2 34)) ?_
  refine Rc (ex (Od.loc 3 31) t20) ?_
  refine Rc (ex (Od.loc 3 31) t21) ?_
  refine Rc (mv (Od.lc 4 35)) ?_
  refine Rc (mv (Od.lc 5 36)) ?_
  exact RgAll.nil
 intro v W2 e1 hΦ _
 replace S := S.mono e1
 have v6 : v 6 = .int .i64 4 := hΦ 6 (by decide)
 have v7 : v 7 = .int .i64 0 := hΦ 7 (by decide)
 simp only [layL, Act.put, uAx, u0x, u1x, Nat.reduceAdd]
 rw [v6, v7]
 clear v6 v7 hΦ e1
 refine wpList_nil ?_
 go_upto_region 3 with (fail)
 refine rgs 8 [some 38, some 39, some 40, some 37, some 41, some 42, some 5, some 6] [IsI 2 (-4), IsI 2 5, IsT2 (IsV (.int .i64 8)) (IsV (.int .i64 0)), IsT2 (IsV (.int .i64 8)) (IsV (.int .i64 0)), IsV (.int .i64 8), IsV (.int .i64 0), IsV (.int .i64 8), IsV (.int .i64 0)] [] ?_ ?_
 ·refine Rc (cl1 (en Tryz.func22) Od.con (fun x0 w' hE d0 => by { obtain rfl : x0 = .int .i64 (-4) := d0; exact ROf_f w' (-4) (by decide) (by decide) })) ?_
  refine Rc (cl1 (en Tryz.func22) Od.con (fun x0 w' hE d0 => by { obtain rfl : x0 = .int .i64 5 := d0; exact ROf_f w' (5) (by decide) (by decide) })) ?_
  refine Rc (cl2 (en Tryz.func12) (Od.lc (Φ := IsI 2 (-4)) 0 38) (Od.lc (Φ := IsI 2 5) 1 39) (fun x0 x1 w' hE d0 d1 => exT_2 (hs.ext (S.ext.trans hE)) d0 d1)) ?_
  refine Rc (mv (Od.lc 2 40)) ?_
  refine Rc (ex (Od.loc 3 37) t20) ?_
  refine Rc (ex (Od.loc 3 37) t21) ?_
  refine Rc (mv (Od.lc 4 41)) ?_
  refine Rc (mv (Od.lc 5 42)) ?_
  exact RgAll.nil
 intro v W3 e1 hΦ _
 replace S := S.mono e1
 have v6 : v 6 = .int .i64 8 := hΦ 6 (by decide)
 have v7 : v 7 = .int .i64 0 := hΦ 7 (by decide)
 simp only [layL, Act.put, uAx, u0x, u1x, Nat.reduceAdd]
 rw [v6, v7]
 clear v6 v7 hΦ e1
 refine wpList_nil ?_
 go_upto_region 4 with (fail)
 refine rgs 8 [some 44, some 45, some 46, some 43, some 47, some 48, some 7, some 8] [IsI 2 (-4), IsI 2 3, IsT2 (IsV (.int .i64 0)) (IsV (.int .i64 0)), IsT2 (IsV (.int .i64 0)) (IsV (.int .i64 0)), IsV (.int .i64 0), IsV (.int .i64 0), IsV (.int .i64 0), IsV (.int .i64 0)] [] ?_ ?_
 ·refine Rc (cl1 (en Tryz.func22) Od.con (fun x0 w' hE d0 => by { obtain rfl : x0 = .int .i64 (-4) := d0; exact ROf_f w' (-4) (by decide) (by decide) })) ?_
  refine Rc (cl1 (en Tryz.func22) Od.con (fun x0 w' hE d0 => by { obtain rfl : x0 = .int .i64 3 := d0; exact ROf_f w' (3) (by decide) (by decide) })) ?_
  refine Rc (cl2 (en Tryz.func12) (Od.lc (Φ := IsI 2 (-4)) 0 44) (Od.lc (Φ := IsI 2 3) 1 45) (fun x0 x1 w' hE d0 d1 => exT_3 (hs.ext (S.ext.trans hE)) d0 d1)) ?_
  refine Rc (mv (Od.lc 2 46)) ?_
  refine Rc (ex (Od.loc 3 43) t20) ?_
  refine Rc (ex (Od.loc 3 43) t21) ?_
  refine Rc (mv (Od.lc 4 47)) ?_
  refine Rc (mv (Od.lc 5 48)) ?_
  exact RgAll.nil
 intro v W4 e1 hΦ _
 replace S := S.mono e1
 have v6 : v 6 = .int .i64 0 := hΦ 6 (by decide)
 have v7 : v 7 = .int .i64 0 := hΦ 7 (by decide)
 simp only [layL, Act.put, uAx, u0x, u1x, Nat.reduceAdd]
 rw [v6, v7]
 clear v6 v7 hΦ e1
 refine wpList_nil ?_
 go_upto_region 5 with (fail)
 refine rgs 8 [some 50, some 51, some 52, some 49, some 53, some 54, some 9, some 10] [IsI 2 (-4), IsI 2 9, IsT2 (IsV (.int .i64 4)) (IsV (.int .i64 0)), IsT2 (IsV (.int .i64 4)) (IsV (.int .i64 0)), IsV (.int .i64 4), IsV (.int .i64 0), IsV (.int .i64 4), IsV (.int .i64 0)] [] ?_ ?_
 ·refine Rc (cl1 (en Tryz.func22) Od.con (fun x0 w' hE d0 => by { obtain rfl : x0 = .int .i64 (-4) := d0; exact ROf_f w' (-4) (by decide) (by decide) })) ?_
  refine Rc (cl1 (en Tryz.func22) Od.con (fun x0 w' hE d0 => by { obtain rfl : x0 = .int .i64 9 := d0; exact ROf_f w' (9) (by decide) (by decide) })) ?_
  refine Rc (cl2 (en Tryz.func12) (Od.lc (Φ := IsI 2 (-4)) 0 50) (Od.lc (Φ := IsI 2 9) 1 51) (fun x0 x1 w' hE d0 d1 => exT_4 (hs.ext (S.ext.trans hE)) d0 d1)) ?_
  refine Rc (mv (Od.lc 2 52)) ?_
  refine Rc (ex (Od.loc 3 49) t20) ?_
  refine Rc (ex (Od.loc 3 49) t21) ?_
  refine Rc (mv (Od.lc 4 53)) ?_
  refine Rc (mv (Od.lc 5 54)) ?_
  exact RgAll.nil
 intro v W5 e1 hΦ _
 replace S := S.mono e1
 have v6 : v 6 = .int .i64 4 := hΦ 6 (by decide)
 have v7 : v 7 = .int .i64 0 := hΦ 7 (by decide)
 simp only [layL, Act.put, uAx, u0x, u1x, Nat.reduceAdd]
 rw [v6, v7]
 clear v6 v7 hΦ e1
 refine wpList_nil ?_
 go_upto_region 6 with (fail)
 refine rgs 8 [some 56, some 57, some 58, some 55, some 59, some 60, some 11, some 12] [IsI 2 (-20), IsI 2 3, IsT2 (IRx [-1, -1]) (IsV (.int .i64 0)), IsT2 (IRx [-1, -1]) (IsV (.int .i64 0)), IRx [-1, -1], IsV (.int .i64 0), IRx [-1, -1], IsV (.int .i64 0)] [] ?_ ?_ (hst := by repeat' (first | exact trivial | exact IRx.stb _ | exact IsV.stb _ | exact IsI.stb _ _ | exact IsBo.stb _ _ | apply IsT2.stb | apply IsT3.stb | apply IsJ.stb | apply IsQ.stb | apply And.intro))
 ·refine Rc (cl1 (en Tryz.func22) Od.con (fun x0 w' hE d0 => by { obtain rfl : x0 = .int .i64 (-20) := d0; exact ROf_f w' (-20) (by decide) (by decide) })) ?_
  refine Rc (cl1 (en Tryz.func22) Od.con (fun x0 w' hE d0 => by { obtain rfl : x0 = .int .i64 3 := d0; exact ROf_f w' (3) (by decide) (by decide) })) ?_
  refine Rc (cl2 (en Tryz.func14) (Od.lc (Φ := IsI 2 (-20)) 0 56) (Od.lc (Φ := IsI 2 3) 1 57) (fun x0 x1 w' hE d0 d1 => exG (hs.ext (S.ext.trans hE)) d0 d1)) ?_
  refine Rc (mv (Od.lc 2 58)) ?_
  refine Rc (ex (Od.loc 3 55) t20) ?_
  refine Rc (ex (Od.loc 3 55) t21) ?_
  refine Rc (mv (Od.lc 4 59)) ?_
  refine Rc (mv (Od.lc 5 60)) ?_
  exact RgAll.nil
 intro v W6 e1 hΦ _
 replace S := S.mono e1
 obtain ⟨u11, hu11, k11⟩ : ∃ vv_, v 6 = vv_ ∧ (IRx [-1, -1]) vv_ W6 := ⟨_, rfl, hΦ 6 (by decide)⟩
 have v7 : v 7 = .int .i64 0 := hΦ 7 (by decide)
 simp only [layL, Act.put, uAx, u0x, u1x, Nat.reduceAdd]
 rw [hu11, v7]
 clear hu11 v7 hΦ e1
 refine wpList_nil ?_
 go_upto_region 7 with (fail)
 have hO1 := fun w => ROf_f w (-23) (by decide) (by decide)
 go_upto_region 8 with (first | (go_at_call 22; go_must (refine Calls.mono (hO1 _) ?_; rintro e wA ⟨xA, rfl, EA, hA⟩; clear hO1)) | (go_at_call 18; go_must (refine Calls.mono (exC (ht.ext (S.ext.trans EA)) (hs.ext (S.ext.trans EA)) hA) ?_; rintro e wC ⟨_, rfl, EC, _, _, rfl, ⟨gp7, sA7, aA7, nA7, cA7, sB7, aB7, nB7, cB7, rfl, hQ7, hP7⟩, rfl⟩)))
 obtain ⟨W7, hW⟩ : ∃ W', wC.alloc (.cells #[.slice (some ⟨gp7, 0, none⟩) 1 1, .bool sA7, .slice aA7 nA7 cA7, .bool sB7, .slice aB7 nB7 cB7] 48) = W' := ⟨_, rfl⟩
 have E7 : Ext wC W7 := by rw [← hW]; exact (Ext.refl _).alloc _
 have EX : Ext W6 W7 := (EA.trans EC).trans E7
 have hAt7 : AuAt W7 wC.heap.size (some ⟨gp7, 0, none⟩) 1 1 sA7 aA7 nA7 cA7 sB7 aB7 nB7 cB7 := by rw [← hW]; exact ⟨cell_newAt _ _ rfl _ _ _ _ rfl, cell_newAt _ _ rfl _ _ _ _ rfl, cell_newAt _ _ rfl _ _ _ _ rfl, cell_newAt _ _ rfl _ _ _ _ rfl, cell_newAt _ _ rfl _ _ _ _ rfl⟩
 replace hP7 := hP7.ext E7
 replace hQ7 := IsQ.stb (IsI.stb _ _) (IsI.stb _ _) _ _ _ E7 hQ7
 rw [hW]
 clear hW E7 EA EC hA
 generalize wC.heap.size = b7 at *
 replace S := S.mono EX
 replace k11 := IRx.stb _ _ _ _ EX k11
 clear EX
 have EK7 := Ext.refl W7
 have hO1 := fun w => ROf_f w (-23) (by decide) (by decide)
 have hO2 := fun w => ROf_f w (2) (by decide) (by decide)
 go_upto_region 9 with (first | (go_at_call 22; go_must (first | (refine Calls.mono (hO1 _) ?_; rintro e wA ⟨xA, rfl, EA, hA⟩; clear hO1) | (refine Calls.mono (hO2 _) ?_; rintro e wB ⟨xB, rfl, EB, hB⟩; clear hO2))) | (go_at_call 16; go_must (refine Calls.mono (exA (ht.ext ((S.ext.trans EA).trans EB)) (hs.ext ((S.ext.trans EA).trans EB)) (IsI.stb _ _ _ _ _ EB hA) hB) ?_; rintro e wC ⟨_, rfl, EC, _, _, rfl, ⟨gp8, sA8, aA8, nA8, cA8, sB8, aB8, nB8, cB8, rfl, hQ8, hP8⟩, rfl⟩)))
 obtain ⟨W8, hW⟩ : ∃ W', wC.alloc (.cells #[.slice (some ⟨gp8, 0, none⟩) 1 1, .bool sA8, .slice aA8 nA8 cA8, .bool sB8, .slice aB8 nB8 cB8] 48) = W' := ⟨_, rfl⟩
 have E8 : Ext wC W8 := by rw [← hW]; exact (Ext.refl _).alloc _
 have EX : Ext W7 W8 := ((EA.trans EB).trans EC).trans E8
 have hAt8 : AuAt W8 wC.heap.size (some ⟨gp8, 0, none⟩) 1 1 sA8 aA8 nA8 cA8 sB8 aB8 nB8 cB8 := by rw [← hW]; exact ⟨cell_newAt _ _ rfl _ _ _ _ rfl, cell_newAt _ _ rfl _ _ _ _ rfl, cell_newAt _ _ rfl _ _ _ _ rfl, cell_newAt _ _ rfl _ _ _ _ rfl, cell_newAt _ _ rfl _ _ _ _ rfl⟩
 replace hP8 := hP8.ext E8
 replace hQ8 := IsQ.stb (IsI.stb _ _) (IsI.stb _ _) _ _ _ E8 hQ8
 rw [hW]
 clear hW E8 EA EB EC hA hB
 generalize wC.heap.size = b8 at *
 replace S := S.mono EX
 replace k11 := IRx.stb _ _ _ _ EX k11
 replace EK7 := EK7.trans EX
 clear EX
 have EK8 := Ext.refl W8
 refine rgs 8 [some 73, some 74, some 75, some 72, some 76, some 77, some 17, some 18] [IsI 2 (-12), IsI 2 2, IsT2 (IsV (.int .i64 0)) (IsV (.int .i64 1)), IsT2 (IsV (.int .i64 0)) (IsV (.int .i64 1)), IsV (.int .i64 0), IsV (.int .i64 1), IsV (.int .i64 0), IsV (.int .i64 1)] [] ?_ ?_
 ·refine Rc (cl1 (en Tryz.func22) Od.con (fun x0 w' hE d0 => by { obtain rfl : x0 = .int .i64 (-12) := d0; exact ROf_f w' (-12) (by decide) (by decide) })) ?_
  refine Rc (cl1 (en Tryz.func22) Od.con (fun x0 w' hE d0 => by { obtain rfl : x0 = .int .i64 2 := d0; exact ROf_f w' (2) (by decide) (by decide) })) ?_
  refine Rc (cl2 (en Tryz.func12) (Od.lc (Φ := IsI 2 (-12)) 0 73) (Od.lc (Φ := IsI 2 2) 1 74) (fun x0 x1 w' hE d0 d1 => exT_5 (hs.ext (S.ext.trans hE)) d0 d1)) ?_
  refine Rc (mv (Od.lc 2 75)) ?_
  refine Rc (ex (Od.loc 3 72) t20) ?_
  refine Rc (ex (Od.loc 3 72) t21) ?_
  refine Rc (mv (Od.lc 4 76)) ?_
  refine Rc (mv (Od.lc 5 77)) ?_
  exact RgAll.nil
 intro v W9 e1 hΦ _
 replace S := S.mono e1
 replace EK7 := EK7.trans e1
 replace EK8 := EK8.trans e1
 replace k11 := (IRx.stb _) _ _ _ e1 k11
 have v7 : v 7 = .int .i64 1 := hΦ 7 (by decide)
 simp only [layL, Act.put, uAx, u0x, u1x, Nat.reduceAdd]
 rw [v7]
 clear v7 hΦ e1
 refine wpList_nil ?_
 go_upto_region 10 with (fail)
 refine rgs 8 [some 79, some 80, some 81, some 78, some 82, some 83, some 19, some 20] [IsI 2 (-23), IsI 2 0, IsT2 (IsV (.int .i64 0)) (IsV (.int .i64 1)), IsT2 (IsV (.int .i64 0)) (IsV (.int .i64 1)), IsV (.int .i64 0), IsV (.int .i64 1), IsV (.int .i64 0), IsV (.int .i64 1)] [] ?_ ?_
 ·refine Rc (cl1 (en Tryz.func22) Od.con (fun x0 w' hE d0 => by { obtain rfl : x0 = .int .i64 (-23) := d0; exact ROf_f w' (-23) (by decide) (by decide) })) ?_
  refine Rc (cl1 (en Tryz.func22) Od.con (fun x0 w' hE d0 => by { obtain rfl : x0 = .int .i64 0 := d0; exact ROf_f w' (0) (by decide) (by decide) })) ?_
  refine Rc (cl2 (en Tryz.func12) (Od.lc (Φ := IsI 2 (-23)) 0 79) (Od.lc (Φ := IsI 2 0) 1 80) (fun x0 x1 w' hE d0 d1 => exT_6 (hs.ext (S.ext.trans hE)) d0 d1)) ?_
  refine Rc (mv (Od.lc 2 81)) ?_
  refine Rc (ex (Od.loc 3 78) t20) ?_
  refine Rc (ex (Od.loc 3 78) t21) ?_
  refine Rc (mv (Od.lc 4 82)) ?_
  refine Rc (mv (Od.lc 5 83)) ?_
  exact RgAll.nil
 intro v W10 e1 hΦ _
 replace S := S.mono e1
 replace EK7 := EK7.trans e1
 replace EK8 := EK8.trans e1
 replace k11 := (IRx.stb _) _ _ _ e1 k11
 have v7 : v 7 = .int .i64 1 := hΦ 7 (by decide)
 simp only [layL, Act.put, uAx, u0x, u1x, Nat.reduceAdd]
 rw [v7]
 clear v7 hΦ e1
 refine wpList_nil ?_
 go_upto_region 11 with (fail)
 have hO1 := fun w => ROf_f w (-12) (by decide) (by decide)
 have hnil : auNil = .agg #[.slice none 0 0, .bool false, .slice none 0 0, .bool false, .slice none 0 0] := rfl
 go_upto_region 12 with (first | (go_at_call 22; go_must (refine Calls.mono (hO1 _) ?_; rintro e wA ⟨xA, rfl, EA, hA⟩; clear hO1)) | (go_at_call 18; go_must (refine Calls.mono (exC2 hA) ?_; rintro e wC ⟨_, rfl, EC, _, _, rfl, rfl, rfl⟩)))
 obtain ⟨W11, hW⟩ : ∃ W', wC.alloc (.cells #[.slice none 0 0, .bool false, .slice none 0 0, .bool false, .slice none 0 0] 48) = W' := ⟨_, rfl⟩
 have E11 : Ext wC W11 := by rw [← hW]; exact (Ext.refl _).alloc _
 have EX : Ext W10 W11 := (EA.trans EC).trans E11
 rw [hW]
 clear hW E11 EA EC hA hnil
 replace S := S.mono EX
 replace k11 := IRx.stb _ _ _ _ EX k11
 replace EK7 := EK7.trans EX
 replace EK8 := EK8.trans EX
 clear EX
 refine rgs 8 [some 90, some 91, some 92, some 89, some 93, some 94, some 23, some 24] [IsI 2 23, IsI 2 2, IsT2 (IsV (.int .i64 0)) (IsV (.int .i64 5)), IsT2 (IsV (.int .i64 0)) (IsV (.int .i64 5)), IsV (.int .i64 0), IsV (.int .i64 5), IsV (.int .i64 0), IsV (.int .i64 5)] [] ?_ ?_
 ·refine Rc (cl1 (en Tryz.func22) Od.con (fun x0 w' hE d0 => by { obtain rfl : x0 = .int .i64 23 := d0; exact ROf_f w' (23) (by decide) (by decide) })) ?_
  refine Rc (cl1 (en Tryz.func22) Od.con (fun x0 w' hE d0 => by { obtain rfl : x0 = .int .i64 2 := d0; exact ROf_f w' (2) (by decide) (by decide) })) ?_
  refine Rc (cl2 (en Tryz.func12) (Od.lc (Φ := IsI 2 23) 0 90) (Od.lc (Φ := IsI 2 2) 1 91) (fun x0 x1 w' hE d0 d1 => exP d0 d1)) ?_
  refine Rc (mv (Od.lc 2 92)) ?_
  refine Rc (ex (Od.loc 3 89) t20) ?_
  refine Rc (ex (Od.loc 3 89) t21) ?_
  refine Rc (mv (Od.lc 4 93)) ?_
  refine Rc (mv (Od.lc 5 94)) ?_
  exact RgAll.nil
 intro v W12 e1 hΦ _
 replace S := S.mono e1
 replace EK7 := EK7.trans e1
 replace EK8 := EK8.trans e1
 replace k11 := (IRx.stb _) _ _ _ e1 k11
 have v7 : v 7 = .int .i64 5 := hΦ 7 (by decide)
 simp only [layL, Act.put, uAx, u0x, u1x, Nat.reduceAdd]
 rw [v7]
 clear v7 hΦ e1
 refine wpList_nil ?_
 go_upto_region 13 with (fail)
 refine rgs 46 (some 95 :: some 96 :: some 97 :: some 98 :: some 99 :: some 100 :: some 101 :: some 102 :: some 103 :: some 104 :: some 105 :: some 106 :: some 107 :: some 108 :: some 109 :: some 110 :: some 111 :: some 112 :: some 113 :: some 114 :: some 115 :: some 116 :: some 117 :: some 118 :: some 119 :: some 120 :: some 121 :: some 122 :: some 123 :: some 124 :: some 125 :: some 126 :: some 127 :: some 128 :: some 129 :: some 130 :: some 131 :: some 132 :: some 133 :: some 134 :: some 135 :: some 136 :: some 137 :: some 138 :: some 139 :: some 140 :: []) (IsV (.int .i64 0) :: IsV (.bool false) :: IsV (.bool false) :: IsV (.int .i64 0) :: IsV (.bool false) :: IsV (.bool false) :: IsV (.bool false) :: IsV (.int .i64 0) :: IsV (.bool false) :: IsV (.bool false) :: IsV (.bool false) :: IsV (.int .i64 0) :: IsV (.bool false) :: IsV (.bool false) :: IsV (.bool false) :: IsV (.int .i64 0) :: IsV (.bool false) :: IsV (.bool false) :: IsV (.bool false) :: IsV (.int .i64 0) :: IsV (.bool false) :: IsV (.bool false) :: IsV (.bool false) :: IsV (.int .i64 0) :: IsV (.bool false) :: IsV (.bool false) :: IsV (.bool false) :: IsV (.int .i64 0) :: IsV (.bool false) :: IsV (.bool false) :: IsV (.bool false) :: IsV (.int .i64 1) :: IsV (.bool false) :: IsV (.bool false) :: IsV (.bool false) :: IsV (.int .i64 1) :: IsV (.bool false) :: IsV (.bool false) :: IsV (.bool false) :: IsV (.int .i64 5) :: IsV (.bool false) :: IsV (.bool false) :: IsV (.bool false) :: IsV (.int .i64 5) :: IsV (.bool false) :: IsV (.bool false) :: []) [] ?_ ?_
 ·refine Rc (mv (Od.lit 2)) ?_
  refine Rc (bn (r := .bool false) (Od.loc 0 95) Od.con (hr := fun w => by go_simp)) ?_
  refine Rc (mv (Od.lc 1 96)) ?_
  refine RcG 2 97 false (mv (Od.lit 4)) ?_
  refine RcG 2 97 false (bn (r := .bool false) (Od.loc 3 98) Od.con (hr := fun w => by go_simp)) ?_
  refine Rc (pk (Od.loc 2 97) (Od.lc 4 99)) ?_
  refine Rc (mv (Od.lc 5 100)) ?_
  refine RcG 6 101 false (mv (Od.lit 6)) ?_
  refine RcG 6 101 false (bn (r := .bool false) (Od.loc 7 102) Od.con (hr := fun w => by go_simp)) ?_
  refine Rc (pk (Od.loc 6 101) (Od.lc 8 103)) ?_
  refine Rc (mv (Od.lc 9 104)) ?_
  refine RcG 10 105 false (mv (Od.lit 8)) ?_
  refine RcG 10 105 false (bn (r := .bool false) (Od.loc 11 106) Od.con (hr := fun w => by go_simp)) ?_
  refine Rc (pk (Od.loc 10 105) (Od.lc 12 107)) ?_
  refine Rc (mv (Od.lc 13 108)) ?_
  refine RcG 14 109 false (mv (Od.lit 10)) ?_
  refine RcG 14 109 false (bn (r := .bool false) (Od.loc 15 110) Od.con (hr := fun w => by go_simp)) ?_
  refine Rc (pk (Od.loc 14 109) (Od.lc 16 111)) ?_
  refine Rc (mv (Od.lc 17 112)) ?_
  refine RcG 18 113 false (mv (Od.lit 12)) ?_
  refine RcG 18 113 false (bn (r := .bool false) (Od.loc 19 114) Od.con (hr := fun w => by go_simp)) ?_
  refine Rc (pk (Od.loc 18 113) (Od.lc 20 115)) ?_
  refine Rc (mv (Od.lc 21 116)) ?_
  refine RcG 22 117 false (mv (Od.lit 14)) ?_
  refine RcG 22 117 false (bn (r := .bool false) (Od.loc 23 118) Od.con (hr := fun w => by go_simp)) ?_
  refine Rc (pk (Od.loc 22 117) (Od.lc 24 119)) ?_
  refine Rc (mv (Od.lc 25 120)) ?_
  refine RcG 26 121 false (mv (Od.lit 16)) ?_
  refine RcG 26 121 false (bn (r := .bool false) (Od.loc 27 122) Od.con (hr := fun w => by go_simp)) ?_
  refine Rc (pk (Od.loc 26 121) (Od.lc 28 123)) ?_
  refine Rc (mv (Od.lc 29 124)) ?_
  refine RcG 30 125 false (mv (Od.lit 18)) ?_
  refine RcG 30 125 false (bn (r := .bool false) (Od.loc 31 126) Od.con (hr := fun w => by go_simp)) ?_
  refine Rc (pk (Od.loc 30 125) (Od.lc 32 127)) ?_
  refine Rc (mv (Od.lc 33 128)) ?_
  refine RcG 34 129 false (mv (Od.lit 20)) ?_
  refine RcG 34 129 false (bn (r := .bool false) (Od.loc 35 130) Od.con (hr := fun w => by go_simp)) ?_
  refine Rc (pk (Od.loc 34 129) (Od.lc 36 131)) ?_
  refine Rc (mv (Od.lc 37 132)) ?_
  refine RcG 38 133 false (mv (Od.lit 22)) ?_
  refine RcG 38 133 false (bn (r := .bool false) (Od.loc 39 134) Od.con (hr := fun w => by go_simp)) ?_
  refine Rc (pk (Od.loc 38 133) (Od.lc 40 135)) ?_
  refine Rc (mv (Od.lc 41 136)) ?_
  refine RcG 42 137 false (mv (Od.lit 24)) ?_
  refine RcG 42 137 false (bn (r := .bool false) (Od.loc 43 138) Od.con (hr := fun w => by go_simp)) ?_
  refine Rc (pk (Od.loc 42 137) (Od.lc 44 139)) ?_
  exact RgAll.nil
 intro v W13 e1 hΦ _
 replace S := S.mono e1
 replace EK7 := EK7.trans e1
 replace EK8 := EK8.trans e1
 replace k11 := (IRx.stb _) _ _ _ e1 k11
 have v45 : v 45 = .bool false := hΦ 45 (by decide)
 simp only [layL, Act.put, uAx, u0x, u1x, Nat.reduceAdd]
 rw [v45]
 clear v45 hΦ e1
 refine wpList_nil ?_
 go_upto_region 15 with (fail)
 have hA7 := hAt7.ext EK7
 have hA8 := hAt8.ext EK8
 have hB7 := hP7.ext EK7
 have hB8 := hP8.ext EK8
 have hR7 := IsQ.stb (IsI.stb _ _) (IsI.stb _ _) _ _ _ EK7 hQ7
 have hR8 := IsQ.stb (IsI.stb _ _) (IsI.stb _ _) _ _ _ EK8 hQ8
 obtain ⟨WA, hWA⟩ : ∃ WA, World.alloc W13 (.cells #[.int .i64 (-1), .int .i64 (-1)] 3) = WA := ⟨_, rfl⟩
 have EA : Ext W13 WA := by rw [← hWA]; exact (Ext.refl _).alloc _
 have hrow : IRx [-1, -1] (.slice (some ⟨World.heap W13 |>.size, 0, none⟩) 2 2) WA := ⟨0, OwnI.row (ys := [-1, -1]) (by rw [← hWA]; show (_ : Array Obj)[_]? = _; show (Array.push _ _)[_]? = _; simp [icells]) (Nat.zero_le _) (by decide)⟩
 have hSL := SameList_f (IRx.stb _ _ _ _ EA k11) hrow
 rw [show decide (([-1, -1] : List Int) = [-1, -1]) = true by decide] at hSL
 obtain ⟨ao, cap, rfl, hq1, hq2, _⟩ := k11.shape
 have c70 := hA7.m0
 have c80 := hA8.m0
 have n70 := hA7.m0
 go_wp2_with (go_at_call 20; go_must (refine Calls.mono hSL ?_; rintro e wS ⟨_, rfl, ES, rfl⟩; have c70 := Ext.cell (EA.trans ES) hA7.m0; have c80 := Ext.cell (EA.trans ES) hA8.m0))
 replace S := S.mono (EA.trans ES)
 have hA7 := hA7.ext (EA.trans ES)
 have hA8 := hA8.ext (EA.trans ES)
 have hB7 := hB7.ext (EA.trans ES)
 have hB8 := hB8.ext (EA.trans ES)
 replace hR7 := IsQ.stb (IsI.stb _ _) (IsI.stb _ _) _ _ _ (EA.trans ES) hR7
 replace hR8 := IsQ.stb (IsI.stb _ _) (IsI.stb _ _) _ _ _ (EA.trans ES) hR8
 clear hSL hrow k11 c70 c80
 refine rg 27 [some 177, some 178, some 179, some 180, some 181, some 182, some 183, some 184, some 185, some 186, some 187, some 188, some 189, some 190, some 191, some 192, some 193, some 194, some 195, some 196, some 197, some 198, some 199, some 200, some 201, some 202, some 0] [IsV (.pointer (some ⟨b7, 0, none⟩)), IsV (.slice (some ⟨gp7, 0, none⟩) 1 1), IsV (.pointer (some ⟨gp7, 0, none⟩)), IsV (.pointer (some ⟨gp7, 0, none⟩)), IsV (.string ⟨#[99, 58, 45, 50, 51]⟩), IsV (.bool true), IsV (.bool true), IsV (.pointer (some ⟨b8, 0, none⟩)), IsV (.slice (some ⟨gp8, 0, none⟩) 1 1), IsV (.pointer (some ⟨gp8, 0, none⟩)), IsV (.pointer (some ⟨gp8, 0, none⟩)), IsV (.string ⟨#[115, 58, 45, 50, 51, 58, 50]⟩), IsV (.bool true), IsV (.bool true), IsV (.bool true), IsV (.pointer (some ⟨b7, 1, none⟩)), IsQ (IsI 4 ((3 : Rat).num)) (IsI 4 ((((3 : Rat).den : Nat) : Int))), IsQ (IsI 2 ((Rat.divInt 3 1 : Rat).num)) (IsI 2 ((((Rat.divInt 3 1 : Rat).den : Nat) : Int))), IsV (.bool true), IsV (.bool true), IsV (.bool true), IsV (.pointer (some ⟨b8, 1, none⟩)), IsQ (IsI 4 ((4 : Rat).num)) (IsI 4 ((((4 : Rat).den : Nat) : Int))), IsQ (IsI 2 ((Rat.divInt 4 1 : Rat).num)) (IsI 2 ((((Rat.divInt 4 1 : Rat).den : Nat) : Int))), IsV (.bool true), IsV (.bool true), IsV (.bool true)] [] 0 ?_ ?_
 ·refine Rc (fa (fa_Au0 b7) (Od.lit 13)) ?_
  refine Rc (ldCc hA7.m0 (ldc_parts _ _ _) (Od.loc 0 177)) ?_
  refine Rc (ix (ix_Pt gp7) (Od.loc 1 178) Od.con) ?_
  refine Rc (fa (fa_Pt0 gp7) (Od.loc 2 179)) ?_
  refine Rc (ldCc hB7.nm (ldc_str _) (Od.loc 3 180)) ?_
  refine Rc (bn (r := .bool true) (Od.loc 4 181) Od.con (hr := fun w => by go_simp)) ?_
  refine Rc (mv (Od.lc 5 182)) ?_
  refine RcG 6 183 true (fa (fa_Au0 b8) (Od.lit 15)) ?_
  refine RcG 6 183 true (ldCc hA8.m0 (ldc_parts _ _ _) (Od.loc 7 184)) ?_
  refine RcG 6 183 true (ix (ix_Pt gp8) (Od.loc 8 185) Od.con) ?_
  refine RcG 6 183 true (fa (fa_Pt0 gp8) (Od.loc 9 186)) ?_
  refine RcG 6 183 true (ldCc hB8.nm (ldc_str _) (Od.loc 10 187)) ?_
  refine RcG 6 183 true (bn (r := .bool true) (Od.loc 11 188) Od.con (hr := fun w => by go_simp)) ?_
  refine Rc (pk (Od.loc 6 183) (Od.lc 12 189)) ?_
  refine Rc (mv (Od.lc 13 190)) ?_
  refine RcG 14 191 true (fa (fa_Au1 b7) (Od.lit 13)) ?_
  refine RcG 14 191 true (ldRt hA7.m1 hA7.m2 hA7.m3 hA7.m4 hR7 (Od.loc 15 192)) ?_
  refine RcG 14 191 true (cl2 (en Tryz.func34) Od.con Od.con (fun x0 x1 w' hE d0 d1 => by { obtain rfl : x0 = .int .i64 3 := d0; obtain rfl : x1 = .int .i64 1 := d1; exact rqOf_f w' 3 1 (by decide) (by decide) (by decide) })) ?_
  refine RcG 14 191 true (cl2 (en Tryz.func33) (Od.lc (Φ := IsQ (IsI 4 ((3 : Rat).num)) (IsI 4 ((((3 : Rat).den : Nat) : Int)))) 16 193) (Od.lc (Φ := IsQ (IsI 2 ((Rat.divInt 3 1 : Rat).num)) (IsI 2 ((((Rat.divInt 3 1 : Rat).den : Nat) : Int)))) 17 194) (fun x0 x1 w' hE d0 d1 => rqSame_eq d0 d1 (by decide) (by decide +kernel))) ?_
  refine Rc (pk (Od.loc 14 191) (Od.lc 18 195)) ?_
  refine Rc (mv (Od.lc 19 196)) ?_
  refine RcG 20 197 true (fa (fa_Au1 b8) (Od.lit 15)) ?_
  refine RcG 20 197 true (ldRt hA8.m1 hA8.m2 hA8.m3 hA8.m4 hR8 (Od.loc 21 198)) ?_
  refine RcG 20 197 true (cl2 (en Tryz.func34) Od.con Od.con (fun x0 x1 w' hE d0 d1 => by { obtain rfl : x0 = .int .i64 4 := d0; obtain rfl : x1 = .int .i64 1 := d1; exact rqOf_f w' 4 1 (by decide) (by decide) (by decide) })) ?_
  refine RcG 20 197 true (cl2 (en Tryz.func33) (Od.lc (Φ := IsQ (IsI 4 ((4 : Rat).num)) (IsI 4 ((((4 : Rat).den : Nat) : Int)))) 22 199) (Od.lc (Φ := IsQ (IsI 2 ((Rat.divInt 4 1 : Rat).num)) (IsI 2 ((((Rat.divInt 4 1 : Rat).den : Nat) : Int)))) 23 200) (fun x0 x1 w' hE d0 d1 => rqSame_eq d0 d1 (by decide) (by decide +kernel))) ?_
  refine Rc (pk (Od.loc 20 197) (Od.lc 24 201)) ?_
  refine Rc (mv (Od.lc 25 202)) ?_
  exact RgAll.nil
 intro v W14 e1 hΦ _
 replace S := S.mono e1
 have v26 : v 26 = .bool true := hΦ 26 (by decide)
 simp only [layL, Act.put, uAx, u0x, u1x, Nat.reduceAdd]
 rw [v26]
 clear v26 hΦ e1
 refine wpAny_done (by kernel_rfl) ?_ _
 go_wp2_with fail
 exact bodyPost_ret (v := .bool true) (by simp [results, Tryz.results7, go_sem]) rfl (⟨_, rfl, S.ext, rfl⟩)
end Go.Proofs.YtknffgdbdadpcaaGreatDoor
