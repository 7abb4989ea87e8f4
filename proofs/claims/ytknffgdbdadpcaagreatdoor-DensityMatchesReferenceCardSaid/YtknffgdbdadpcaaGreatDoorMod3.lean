/-
 Package modular: Kronecker, for a lower number above 0. (Printed by wip/gen/mod3.py.)
-/
import Derived.Test.YtknffgdbdadpcaaGreatDoorMod2
import Derived.Test.YtknffgdbdadpcaaGreatDoorRFact
import Derived.Lib.LaidTab
namespace Go.Proofs.YtknffgdbdadpcaaGreatDoor
open Go Go.RowKit

/-- A fact of a guarded operation whose guard is a letter. -/
def IsIf (b : Bool) (Φ : Value → World → Prop) : Value → World → Prop := fun x w => bif b then Φ x w else x = undef
theorem IsIf.stb {b : Bool} {Φ : Value → World → Prop} (h : Stb Φ) : Stb (IsIf b Φ) := fun x w w' e k => by
 cases b
 ·exact k
 ·exact h x w w' e k
section
variable {P : Program} {ops : Array Oper} {Q : Exit → Act → World → Prop} {ds : List (Option Tmp)} {a0 : Act} {w0 : World} {L : List (Value → World → Prop)} {boxes : List Nat} {i k : Nat} {o : Oper} {os : List Oper}
theorem RcB (g t : Nat) (b pol : Bool) (h : b = pol → Ok P ops Q ds a0 w0 L boxes i o) (hs : RgAll P .any ops Q ds a0 w0 L boxes (i + 1) k os) (hg : o.guard = some (g, pol) := by rfl) (hdst : dstOf ops g = some t := by kernel_rfl) (h1 : ds[g]? = some (some t) := by kernel_rfl) (h2 : (ds.drop (g + 1)).contains (some t) = false := by kernel_rfl) (h3 : decide (t < a0.tmps.size) = true := by kernel_rfl) (hu : (ups .any ops i).contains g = true := by kernel_rfl)
  (hL : L.getD g (fun _ _ => True) = IsV (.bool b) := by kernel_rfl) (hb : boxes.contains i = false := by kernel_rfl) (hi : b = (!pol) → L.getD i (fun _ _ => True) = IsV undef := by intro h; subst h; kernel_rfl) : RgAll P .any ops Q ds a0 w0 L boxes i (k + 1) (o :: os) := by
 refine ⟨?_, hs⟩
 by_cases hbp : b = pol
 ·have hL' : L.getD g (fun _ _ => True) = IsV (.bool pol) := by rw [hL, hbp]
  exact RgL.mkG g t pol hg hdst h1 h2 h3 hu (fun _ _ h => by rw [hL'] at h; exact h) (h hbp).out
 ·have hbn : b = !pol := by cases b <;> cases pol <;> simp_all
  have hL' : L.getD g (fun _ _ => True) = IsV (.bool (!pol)) := by rw [hL, hbn]
  exact RgL.mkN g t (!pol) (by rw [hg, Bool.not_not]) hdst h1 h2 h3 hu (fun _ _ h => by rw [hL'] at h; exact h) hb (fun _ => by rw [hi hbn]; exact rfl)
theorem un {x : Operand} {u : UnOp} {T : Nat} {p r : Value} (hx : Od ops ds a0 w0 L i x (IsV p)) (ho : o.op = .unOp u T x := by rfl) (hr : ∀ w, Sem.run P (Op.unary u p) w = .ok r w) (hi : L.getD i (fun _ _ => True) = IsV r := by kernel_rfl) (hb : boxes.contains i = false := by kernel_rfl) : Ok P ops Q ds a0 w0 L boxes i o :=
 Ok.of hb fun v a w hE hd hf => by
  have h1 : a.eval x = p := hx.out v a w hE hd hf
  refine ⟨r, ?_, by rw [hi]; exact rfl⟩
  have := hr w
  unfold execOp
  rw [ho]
  dsimp only
  rw [h1]
  simp [this]
theorem pkA {c y : Operand} {b b2 r : Bool} (hc : Od ops ds a0 w0 L i c (IsV (.bool b))) (hy : b = true → Od ops ds a0 w0 L i y (IsV (.bool b2))) (hr : (b && b2) = r) (ho : o.op = .pick c y (.const (.bool false)) := by rfl) (hi : L.getD i (fun _ _ => True) = IsV (.bool r) := by kernel_rfl) (hb : boxes.contains i = false := by kernel_rfl) : Ok P ops Q ds a0 w0 L boxes i o :=
 Ok.of hb fun v a w hE hd hf => by
  have h1 : a.eval c = .bool b := hc.out v a w hE hd hf
  refine ⟨.bool r, ?_, by rw [hi]; exact rfl⟩
  unfold execOp
  rw [ho]
  dsimp only
  rw [h1]
  cases b
  ·subst hr; simp [asBool]; rfl
  ·have h2 : a.eval y = .bool b2 := (hy rfl).out v a w hE hd hf
   rw [h2]
   subst hr; simp [asBool]
theorem pkO {c y : Operand} {b b2 r : Bool} (hc : Od ops ds a0 w0 L i c (IsV (.bool b))) (hy : b = false → Od ops ds a0 w0 L i y (IsV (.bool b2))) (hr : (b || b2) = r) (ho : o.op = .pick c (.const (.bool true)) y := by rfl) (hi : L.getD i (fun _ _ => True) = IsV (.bool r) := by kernel_rfl) (hb : boxes.contains i = false := by kernel_rfl) : Ok P ops Q ds a0 w0 L boxes i o :=
 Ok.of hb fun v a w hE hd hf => by
  have h1 : a.eval c = .bool b := hc.out v a w hE hd hf
  refine ⟨.bool r, ?_, by rw [hi]; exact rfl⟩
  unfold execOp
  rw [ho]
  dsimp only
  rw [h1]
  cases b
  ·have h2 : a.eval y = .bool b2 := (hy rfl).out v a w hE hd hf
   rw [h2]
   subst hr; simp [asBool]
  ·subst hr; simp [asBool]; rfl
end

/-- The table of the symbols (a/2) is laid. -/
def Sg (w : World) : Prop := ∀ r : Nat, r < 8 → World.cell? w ⟨0, r, none⟩ = some (.int .i64 (sg8 r))
theorem Sg.ext {w w' : World} (h : Sg w) (e : Ext w w') : Sg w' := fun r hr => e.cell (h r hr)
section
variable {ops : Array Oper} {Q : Exit → Act → World → Prop} {ds : List (Option Tmp)} {a0 : Act} {w0 : World} {L : List (Value → World → Prop)} {boxes : List Nat} {i : Nat} {o : Oper}
theorem Od.glb (g : Nat) : Od ops ds a0 w0 L i (.global g) (IsV (.pointer (some ⟨g, 0, none⟩))) := ⟨fun _ _ _ _ _ _ => rfl⟩
theorem ix {x y : Operand} {T : Nat} {p u r : Value} (hr : ∀ w, (Instr.indexAt T p u).run Tryz.prog w = .ok r w) (hx : Od ops ds a0 w0 L i x (IsV p)) (hy : Od ops ds a0 w0 L i y (IsV u)) (ho : o.op = .indexAddr T x y := by rfl) (hi : L.getD i (fun _ _ => True) = IsV r := by kernel_rfl) (hb : boxes.contains i = false := by kernel_rfl) : Ok Tryz.prog ops Q ds a0 w0 L boxes i o :=
 Ok.of hb fun v a w hE hd hf => by
  have h1 : a.eval x = p := hx.out v a w hE hd hf
  have h2 : a.eval y = u := hy.out v a w hE hd hf
  refine ⟨r, ?_, by rw [hi]; exact rfl⟩
  have := hr w
  unfold execOp
  rw [ho]
  dsimp only
  rw [h1, h2]
  simp [this]
theorem ldG {b : Addr} {u : Int} {x : Operand} (hc : ∀ w, Ext w0 w → World.cell? w b = some (.int .i64 u)) (hx : Od ops ds a0 w0 L i x (IsV (.pointer (some b)))) (ho : o.op = .load 3 x := by rfl) (hi : L.getD i (fun _ _ => True) = IsV (.int .i64 u) := by kernel_rfl) (hb : boxes.contains i = false := by kernel_rfl) : Ok Tryz.prog ops Q ds a0 w0 L boxes i o :=
 Ok.of hb fun v' a w hE hd hf => by
  have h : a.eval x = _ := hx.out v' a w hE hd hf
  have hcell := hc w hE
  exact ⟨_, ld_run ho h (show (Instr.loadAt 3 (.pointer (some b))).run Tryz.prog w = .ok (.int .i64 u) w by go_simp), by rw [hi]; exact rfl⟩
end
theorem ia_sg (r : Nat) (h : r < 8) (w : World) : (Instr.indexAt 151 (.pointer (some ⟨0, 0, none⟩)) (.int .u32 ((r : Nat) : Int))).run Tryz.prog w = .ok (.pointer (some ⟨0, r, none⟩)) w := by
 have h1 : (0 : Int) ≤ (r : Int) := by omega
 have h2 : (r : Int) < 8 := by omega
 go_simp

theorem mul_sg (k : Int) (r : Nat) (hk : -1 ≤ k ∧ k ≤ 1) : -1 ≤ k * sg8 r ∧ k * sg8 r ≤ 1 := by
 have hs := sg8_le r
 obtain h | h | h : k = -1 ∨ k = 0 ∨ k = 1 := by omega
 ·rw [h]; omega
 ·rw [h]; omega
 ·rw [h]; omega

set_option maxRecDepth 100000 in
set_option maxHeartbeats 4000000 in
theorem Kron_0 {k1 k2 n : Nat} {z : Int} {x y : Value} {w : World} (hx : IsI k1 z x w) (hy : IsI k2 ((n : Nat) : Int) y w) (oa zE on nE : Bool) (HOA : Hid (decide (z % 2 = 1) = oa)) (HEA : Hid ((!oa) = zE)) (HON : Hid (decide (((n : Nat) : Int) % 2 = 1) = on)) (HEN : Hid ((!on) = nE)) (HS1 : Hid (((n : Nat) : Int).sign = 1)) (HEE : Hid ((zE && nE) = true)) : Calls Tryz.prog 62 #[x, y] w (Ret w (IsV (.int .i64 (0)))) := by
 obtain ⟨s1, a1, n1, c1, rfl, h1⟩ := hx
 have h1 : IsI _ _ _ w := ⟨_, _, _, _, rfl, h1⟩
 obtain ⟨s2, a2, n2, c2, rfl, h2⟩ := hy
 have h2 : IsI _ _ _ w := ⟨_, _, _, _, rfl, h2⟩
 obtain ⟨W, hW, S⟩ : ∃ W, W = (w.alloc (.cells #[.bool s1, .slice a1 n1 c1] 33)).alloc (.cells #[.bool s2, .slice a2 n2 c2] 33) ∧ Sto w W [((w.heap.size + 1, 0), IsI k2 (((n : Nat) : Int))), ((w.heap.size, 0), IsI k1 z)] := ⟨_, rfl, (((Sto.start w).new1 (w.heap.size) (by simp) s1 a1 n1 c1 33 (IsI k1 z) (IsI.gstb _ _) (h1)).new1 (w.heap.size + 1) (by simp) s2 a2 n2 c2 33 (IsI k2 (((n : Nat) : Int))) (IsI.gstb _ _) (h2.ext ((Ext.refl _).alloc _)))⟩
 clear h1 h2
 go_enter Tryz.func62, Tryz.ntmps62
 go_upto_region 1 with (fail)
 rw [← hW]
 clear hW
 refine rgs 3 [some 7, some 8, some 9] [IsI k2 (((n : Nat) : Int)), IsV (.int .i64 1), IsV (.bool false)] [] ?_ ?_
 ·refine Rc (ldI S 0 (w.heap.size + 1) 0 (Od.lit 3) ld_Int) ?_
  refine Rc (cl1 (en Tryz.func84) (Od.lc (Φ := IsI k2 (((n : Nat) : Int))) 0 7) (fun x0 w' hE d0 => Calls.mono (Sign_f d0) fun _ _ h => h.int (HS1.out))) ?_
  refine Rc (bn (r := .bool false) (Od.loc 1 8) Od.con (hr := fun w => by go_simp)) ?_
  exact RgAll.nil
 intro v W1 e1 hΦ _
 replace S := S.mono e1
 have v2 : v 2 = .bool false := hΦ 2 (by decide)
 simp only [layL, Act.put, uAx, u0x, u1x, Nat.reduceAdd]
 rw [v2]
 clear v2 hΦ e1
 refine wpList_nil ?_
 go_upto_region 5 with (fail)
 refine rgs 8 [some 13, some 14, some 15, some 16, some 17, some 18, some 19, some 20] [IsI k1 z, IsV (.bool oa), IsV (.bool zE), IsV (.bool zE), IsIf (zE) (IsI k2 (((n : Nat) : Int))), IsIf (zE) (IsV (.bool on)), IsIf (zE) (IsV (.bool nE)), IsV (.bool true)] [] ?_ ?_ (hst := by repeat' (first | exact trivial | apply IsIf.stb | exact IsV.stb _ | exact IsI.stb _ _ | apply IsJ.stb | apply IsQ.stb | apply And.intro))
 ·refine Rc (ldI S 1 (w.heap.size) 0 (Od.lit 2) ld_Int) ?_
  refine Rc (cl1 (en Tryz.func113) (Od.lc (Φ := IsI k1 z) 0 13) (fun x0 w' hE d0 => Calls.mono (odd_f d0) fun _ _ h => RetB h HOA.out)) ?_
  refine Rc (un (r := .bool zE) (Od.loc 1 14) (hr := fun w => by have hx9 := HEA.out; go_simp)) ?_
  refine Rc (mv (Od.lc 2 15)) ?_
  refine RcB 3 16 zE true (fun hb => by subst hb; exact ldI S 0 (w.heap.size + 1) 0 (Od.lit 3) ld_Int) ?_
  refine RcB 3 16 zE true (fun hb => by subst hb; exact cl1 (en Tryz.func113) (Od.lc (Φ := IsI k2 (((n : Nat) : Int))) 4 17) (fun x0 w' hE d0 => Calls.mono (odd_f d0) fun _ _ h => RetB h HON.out)) ?_
  refine RcB 3 16 zE true (fun hb => by subst hb; exact un (r := .bool nE) (Od.loc 5 18) (hr := fun w => by have hx9 := HEN.out; go_simp)) ?_
  refine Rc (pkA (b2 := nE) (Od.loc 3 16) (fun hb => by subst hb; exact Od.lc 6 19) (HEE.out)) ?_
  exact RgAll.nil
 intro v W2 e1 hΦ _
 replace S := S.mono e1
 have v7 : v 7 = .bool true := hΦ 7 (by decide)
 simp only [layL, Act.put, uAx, u0x, u1x, Nat.reduceAdd]
 rw [v7]
 clear v7 hΦ e1
 refine wpList_nil ?_
 go_upto_region 6 with (fail)
 refine rgs 1 [some 4] [IsV (.int .i64 0)] [] ?_ ?_
 ·refine Rc (mv Od.con) ?_
  exact RgAll.nil
 intro v W3 e1 hΦ _
 replace S := S.mono e1
 have v0 : v 0 = .int .i64 0 := hΦ 0 (by decide)
 simp only [layL, Act.put, uAx, u0x, u1x]
 rw [v0]
 clear v0 hΦ e1
 refine wpList_nil ?_
 go_wp2_with fail
 exact bodyPost_ret (v := .int .i64 0) (by simp [results, Tryz.results62, go_sem]) rfl (⟨_, rfl, S.ext, rfl⟩)

set_option maxRecDepth 100000 in
set_option maxHeartbeats 4000000 in
theorem Kron_1 {k1 k2 n : Nat} {z : Int} {x y : Value} {w : World} (hx : IsI k1 z x w) (hy : IsI k2 ((n : Nat) : Int) y w) (HK : Hid (k1 ≤ 33554432 ∧ k2 ≤ 33554432)) (HSG : Hid (Sg w)) (HN : Hid (0 < n ∧ n ≤ 4611686018427387904)) (oa zE on nE : Bool) (HOA : Hid (decide (z % 2 = 1) = oa)) (HEA : Hid ((!oa) = zE)) (HON : Hid (decide (((n : Nat) : Int) % 2 = 1) = on)) (HEN : Hid ((!on) = nE)) (HS1 : Hid (((n : Nat) : Int).sign = 1)) (HEE : Hid ((zE && nE) = false)) (HN0 : Hid (0 ≤ ((n : Nat) : Int))) (m c a0 : Nat) (rr : Int) (HTW : Hid ((tws n).1 = m ∧ (tws n).2 = c)) (HCP : Hid (((c : Nat) : Int) % 2 = 0 ∧ ((c : Nat) : Int).tmod 2 = 0)) (HM0 : Hid (((m : Nat) : Int) ≠ 0)) (HA0 : Hid (z % ((m : Nat) : Int) = ((a0 : Nat) : Int))) (HB0 : Hid (a0 ≤ m ∧ m % 2 = 1 ∧ m ≤ 4611686018427387904 ∧ a0 ≤ 4611686018427387904)) (HKR : Hid ((-1 ≤ (1 : Int) ∧ (1 : Int) ≤ 1) ∧ krF m a0 m 1 = rr)) : Calls Tryz.prog 62 #[x, y] w (Ret w (IsV (.int .i64 (rr)))) := by
 obtain ⟨s1, a1, n1, c1, rfl, h1⟩ := hx
 have h1 : IsI _ _ _ w := ⟨_, _, _, _, rfl, h1⟩
 obtain ⟨s2, a2, n2, c2, rfl, h2⟩ := hy
 have h2 : IsI _ _ _ w := ⟨_, _, _, _, rfl, h2⟩
 obtain ⟨W, hW, S⟩ : ∃ W, W = (w.alloc (.cells #[.bool s1, .slice a1 n1 c1] 33)).alloc (.cells #[.bool s2, .slice a2 n2 c2] 33) ∧ Sto w W [((w.heap.size + 1, 0), IsI k2 (((n : Nat) : Int))), ((w.heap.size, 0), IsI k1 z)] := ⟨_, rfl, (((Sto.start w).new1 (w.heap.size) (by simp) s1 a1 n1 c1 33 (IsI k1 z) (IsI.gstb _ _) (h1)).new1 (w.heap.size + 1) (by simp) s2 a2 n2 c2 33 (IsI k2 (((n : Nat) : Int))) (IsI.gstb _ _) (h2.ext ((Ext.refl _).alloc _)))⟩
 clear h1 h2
 go_enter Tryz.func62, Tryz.ntmps62
 go_upto_region 1 with (fail)
 rw [← hW]
 clear hW
 refine rgs 3 [some 7, some 8, some 9] [IsI k2 (((n : Nat) : Int)), IsV (.int .i64 1), IsV (.bool false)] [] ?_ ?_
 ·refine Rc (ldI S 0 (w.heap.size + 1) 0 (Od.lit 3) ld_Int) ?_
  refine Rc (cl1 (en Tryz.func84) (Od.lc (Φ := IsI k2 (((n : Nat) : Int))) 0 7) (fun x0 w' hE d0 => Calls.mono (Sign_f d0) fun _ _ h => h.int (HS1.out))) ?_
  refine Rc (bn (r := .bool false) (Od.loc 1 8) Od.con (hr := fun w => by go_simp)) ?_
  exact RgAll.nil
 intro v W1 e1 hΦ _
 replace S := S.mono e1
 have v2 : v 2 = .bool false := hΦ 2 (by decide)
 simp only [layL, Act.put, uAx, u0x, u1x, Nat.reduceAdd]
 rw [v2]
 clear v2 hΦ e1
 refine wpList_nil ?_
 go_upto_region 5 with (fail)
 refine rgs 8 [some 13, some 14, some 15, some 16, some 17, some 18, some 19, some 20] [IsI k1 z, IsV (.bool oa), IsV (.bool zE), IsV (.bool zE), IsIf (zE) (IsI k2 (((n : Nat) : Int))), IsIf (zE) (IsV (.bool on)), IsIf (zE) (IsV (.bool nE)), IsV (.bool false)] [] ?_ ?_ (hst := by repeat' (first | exact trivial | apply IsIf.stb | exact IsV.stb _ | exact IsI.stb _ _ | apply IsJ.stb | apply IsQ.stb | apply And.intro))
 ·refine Rc (ldI S 1 (w.heap.size) 0 (Od.lit 2) ld_Int) ?_
  refine Rc (cl1 (en Tryz.func113) (Od.lc (Φ := IsI k1 z) 0 13) (fun x0 w' hE d0 => Calls.mono (odd_f d0) fun _ _ h => RetB h HOA.out)) ?_
  refine Rc (un (r := .bool zE) (Od.loc 1 14) (hr := fun w => by have hx9 := HEA.out; go_simp)) ?_
  refine Rc (mv (Od.lc 2 15)) ?_
  refine RcB 3 16 zE true (fun hb => by subst hb; exact ldI S 0 (w.heap.size + 1) 0 (Od.lit 3) ld_Int) ?_
  refine RcB 3 16 zE true (fun hb => by subst hb; exact cl1 (en Tryz.func113) (Od.lc (Φ := IsI k2 (((n : Nat) : Int))) 4 17) (fun x0 w' hE d0 => Calls.mono (odd_f d0) fun _ _ h => RetB h HON.out)) ?_
  refine RcB 3 16 zE true (fun hb => by subst hb; exact un (r := .bool nE) (Od.loc 5 18) (hr := fun w => by have hx9 := HEN.out; go_simp)) ?_
  refine Rc (pkA (b2 := nE) (Od.loc 3 16) (fun hb => by subst hb; exact Od.lc 6 19) (HEE.out)) ?_
  exact RgAll.nil
 intro v W2 e1 hΦ _
 replace S := S.mono e1
 have v7 : v 7 = .bool false := hΦ 7 (by decide)
 simp only [layL, Act.put, uAx, u0x, u1x, Nat.reduceAdd]
 rw [v7]
 clear v7 hΦ e1
 refine wpList_nil ?_
 go_upto_region 7 with (fail)
 refine rgs 1 [some 5] [IsV (.int .i64 1)] [] ?_ ?_
 ·refine Rc (mv Od.con) ?_
  exact RgAll.nil
 intro v W3 e1 hΦ _
 replace S := S.mono e1
 have v0 : v 0 = .int .i64 1 := hΦ 0 (by decide)
 simp only [layL, Act.put, uAx, u0x, u1x]
 rw [v0]
 clear v0 hΦ e1
 refine wpList_nil ?_
 go_upto_region 8 with (fail)
 refine rgs 2 [some 21, some 22] [IsV (.pointer (some ⟨w.heap.size + 1, 0, none⟩)), IsV (.bool false)] [] ?_ ?_
 ·refine RgAll.cons (by { (with_reducible refine RgL.mk (by rfl) ?_); intro v a w' hE hd hf; have ev0 := hf.lit 3 (.pointer (some ⟨w.heap.size + 1, 0, none⟩)) (by kernel_rfl) (by kernel_rfl); clear hd hf; intro K hK; go_simp; exact hK.out _ _ (Ext.refl _) rfl (FreshIf.no rfl) }) ?_
  refine RgAll.cons (by { (with_reducible refine RgL.mk (by rfl) ?_); intro v a w' hE hd hf; have d0 : v 0 = .pointer (some ⟨w.heap.size + 1, 0, none⟩) := hd 0 (by kernel_rfl); have ev0 := hf.val 0 21 _ d0 (by kernel_rfl) (by kernel_rfl) (by kernel_rfl); clear d0; obtain ⟨szx, azx, nzx, czx, bzx, hzx⟩ := (S.mono hE).at 0 (w.heap.size + 1) 0 (IsI k2 (((n : Nat) : Int))) rfl; have Lzxa : World.cell? w' ⟨w.heap.size + 1, 0, none⟩ = some (.bool szx) := bzx.c0; have Lzxb : World.cell? w' ⟨w.heap.size + 1, 1, none⟩ = some (.slice azx nzx czx) := bzx.c1; obtain rfl := hzx.pos' (HN0.out); clear hd hf; intro K hK; go_simp; exact hK.out _ _ (Ext.refl _) rfl (FreshIf.no rfl) }) ?_
  exact RgAll.nil
 intro v W4 e1 hΦ _
 replace S := S.mono e1
 have v1 : v 1 = .bool false := hΦ 1 (by decide)
 simp only [layL, Act.put, uAx, u0x, u1x, Nat.reduceAdd]
 rw [v1]
 clear v1 hΦ e1
 refine wpList_nil ?_
 go_upto_region 12 with (fail)
 refine rgs 5 [some 28, some 29, some 27, some 30, some 31] [IsI k2 (((n : Nat) : Int)), IsT2 (IsI k2 (((m : Nat) : Int))) (IsV (.int .i64 ((c : Nat) : Int))), IsT2 (IsI k2 (((m : Nat) : Int))) (IsV (.int .i64 ((c : Nat) : Int))), IsI k2 (((m : Nat) : Int)), IsV (.int .i64 ((c : Nat) : Int))] [] ?_ ?_
 ·refine Rc (ldI S 0 (w.heap.size + 1) 0 (Od.lit 3) ld_Int) ?_
  refine Rc (cl1 (en Tryz.func115) (Od.lc (Φ := IsI k2 (((n : Nat) : Int))) 0 28) (fun x0 w' hE d0 => (by have hh := twos_f d0 HK.out.2 HN.out; rw [HTW.out.1, HTW.out.2] at hh; exact hh))) ?_
  refine Rc (mv (Od.lc 1 29)) ?_
  refine Rc (ex (Od.loc 2 27) t20) ?_
  refine Rc (ex (Od.loc 2 27) t21) ?_
  exact RgAll.nil
 intro v W5 e1 hΦ _
 replace S := S.mono e1
 have h30 := hΦ 3 (by decide)
 have v4 : v 4 = .int .i64 ((c : Nat) : Int) := hΦ 4 (by decide)
 simp only [layL, Act.put, uAx, u0x, u1x, Nat.reduceAdd]
 rw [v4]
 clear v4 hΦ e1
 try simp only [List.drop_succ_cons, List.drop_zero]
 (with_reducible refine stL ?_ (by rfl)); intro KK hKK; refine stI S 0 (w.heap.size + 1) 0 h30 st_Int (fun W6 S2 G2 => hKK _ _ ?_) rfl
 replace S := S2; clear S2 G2 hKK KK h30
 simp only [u0x] at S
 refine wpList_step fun K hK => ?_; go_simp; refine hK _ _ ?_; clear hK K
 refine wpList_nil ?_
 go_upto_region 13 with (fail)
 refine rgs 3 [some 32, some 33, some 34] [IsV (.int .i64 ((c : Nat) : Int)), IsV (.int .i64 0), IsV (.bool false)] [] ?_ ?_
 ·refine Rc (mv (Od.lit 6)) ?_
  refine Rc (bn (r := .int .i64 0) (Od.loc 0 32) Od.con (hr := fun w => by have hx9 := HCP.out.1; have hx8 := HCP.out.2; go_simp)) ?_
  refine Rc (bn (r := .bool false) (Od.loc 1 33) Od.con (hr := fun w => by go_simp)) ?_
  exact RgAll.nil
 intro v W7 e1 hΦ _
 replace S := S.mono e1
 have v2 : v 2 = .bool false := hΦ 2 (by decide)
 simp only [layL, Act.put, uAx, u0x, u1x, Nat.reduceAdd]
 rw [v2]
 clear v2 hΦ e1
 refine wpList_nil ?_
 go_upto_region 15 with (fail)
 refine rgs 3 [some 41, some 42, some 43] [IsI k1 z, IsI k2 (((m : Nat) : Int)), IsI k2 (((a0 : Nat) : Int))] [] ?_ ?_
 ·refine Rc (ldI S 1 (w.heap.size) 0 (Od.lit 2) ld_Int) ?_
  refine Rc (ldI S 0 (w.heap.size + 1) 0 (Od.lit 3) ld_Int) ?_
  refine Rc (cl2 (en Tryz.func117) (Od.lc (Φ := IsI k1 z) 0 41) (Od.lc (Φ := IsI k2 (((m : Nat) : Int))) 1 42) (fun x0 x1 w' hE d0 d1 => Calls.mono (mmod_f d0 d1 HK.out.1 HK.out.2 HM0.out) fun _ _ h => h.eqz HA0.out)) ?_
  exact RgAll.nil
 intro v W8 e1 hΦ _
 replace S := S.mono e1
 have h43 := hΦ 2 (by decide)
 simp only [layL, Act.put, uAx, u0x, u1x, Nat.reduceAdd]
 clear hΦ e1
 try simp only [List.drop_succ_cons, List.drop_zero]
 (with_reducible refine stL ?_ (by rfl)); intro KK hKK; refine stI S 1 (w.heap.size) 0 h43 st_Int (fun W9 S2 G2 => hKK _ _ ?_) rfl
 replace S := S2; clear S2 G2 hKK KK h43
 simp only [u0x, u1x] at S
 refine wpList_nil ?_
 go_wp2_with fail
 have S0 := hid S; clear S
 go_loopg [5] a0 (fun gk v5 wr => ∃ (a nn f : Nat) (kk : Int), v5 = .int .i64 kk ∧ a = gk ∧ a ≤ f ∧ nn % 2 = 1 ∧ nn ≤ 4611686018427387904 ∧ a ≤ 4611686018427387904 ∧ (-1 ≤ kk ∧ kk ≤ 1) ∧ krF f a nn kk = rr ∧ Hid (Sto w wr [((w.heap.size + 1, 0), IsI k2 (((nn : Nat) : Int))), ((w.heap.size, 0), IsI k2 (((a : Nat) : Int)))]))
 case atStart => exact ⟨a0, m, m, 1, rfl, rfl, HB0.out.1, HB0.out.2.1, HB0.out.2.2.1, HB0.out.2.2.2, HKR.out.1, HKR.out.2, S0⟩
 case round =>
  clear S0
  obtain ⟨a, nn, f, kk, rfl, hg, hf, hodd, hnb, hab, hkk, hr, S⟩ := hrel
  have S := S.out
  rcases Nat.eq_zero_or_pos a with ha | ha
  ·by_cases h1 : nn = 1
   ·subst ha
    have HONE := hid (show decide (((nn : Nat) : Int) = 1) = true from decide_eq_true (by omega))
    rw [krF_zero, if_pos h1] at hr
    have HRR := hid hr; clear hr hg hf hodd hnb hab hkk h1
    go_upto_region 16 with (fail)
    refine rgs 3 [some 44, some 45, some 46] [IsI k2 0, IsV (.int .i64 0), IsV (.bool false)] [] ?_ ?_
    ·refine Rc (ldI S 1 (w.heap.size) 0 (Od.lit 2) ld_Int) ?_
     refine Rc (cl1 (en Tryz.func84) (Od.lc (Φ := IsI k2 0) 0 44) (fun x0 w' hE d0 => Calls.mono (Sign_f d0) fun _ _ h => h.int (rfl))) ?_
     refine Rc (bn (r := .bool false) (Od.loc 1 45) Od.con (hr := fun w => by go_simp)) ?_
     exact RgAll.nil
    intro v W10 e1 hΦ _
    replace S := S.mono e1
    have v2 : v 2 = .bool false := hΦ 2 (by decide)
    simp only [layL, Act.put, uAx, u0x, u1x, Nat.reduceAdd]
    rw [v2]
    clear v2 hΦ e1
    refine wpList_nil ?_
    go_upto_region 23 with (fail)
    refine rgs 3 [some 75, some 76, some 77] [IsI k2 (((nn : Nat) : Int)), IsV (.bool true), IsV (.bool false)] [] ?_ ?_
    ·refine Rc (ldI S 0 (w.heap.size + 1) 0 (Od.lit 3) ld_Int) ?_
     refine Rc (cl1 (en Tryz.func112) (Od.lc (Φ := IsI k2 (((nn : Nat) : Int))) 0 75) (fun x0 w' hE d0 => mone_f d0 HK.out.2 HONE.out)) ?_
     refine Rc (nt (Od.loc 1 76)) ?_
     exact RgAll.nil
    intro v W11 e1 hΦ _
    replace S := S.mono e1
    have v2 : v 2 = .bool false := hΦ 2 (by decide)
    simp only [layL, Act.put, uAx, u0x, u1x, Nat.reduceAdd]
    rw [v2]
    clear v2 hΦ e1
    refine wpList_nil ?_
    go_upto_region 25 with (fail)
    refine rgs 2 [some 78, some 4] [IsV (.int .i64 kk), IsV (.int .i64 kk)] [] ?_ ?_
    ·refine Rc (mv (Od.lit 5)) ?_
     refine Rc (mv (Od.lc 0 78)) ?_
     exact RgAll.nil
    intro v W12 e1 hΦ _
    replace S := S.mono e1
    have v1 : v 1 = .int .i64 kk := hΦ 1 (by decide)
    simp only [layL, Act.put, uAx, u0x, u1x, Nat.reduceAdd]
    rw [v1]
    clear v1 hΦ e1
    refine wpList_nil ?_
    go_wp2_with fail
    exact bodyPost_ret (v := .int .i64 kk) (by simp [results, Tryz.results62, go_sem]) rfl (⟨_, rfl, S.ext, HRR.out ▸ rfl⟩)
   ·subst ha
    have HONE := hid (show decide (((nn : Nat) : Int) = 1) = false from decide_eq_false (by omega))
    rw [krF_zero, if_neg h1] at hr
    have HRR := hid hr; clear hr hg hf hodd hnb hab hkk h1
    go_upto_region 16 with (fail)
    refine rgs 3 [some 44, some 45, some 46] [IsI k2 0, IsV (.int .i64 0), IsV (.bool false)] [] ?_ ?_
    ·refine Rc (ldI S 1 (w.heap.size) 0 (Od.lit 2) ld_Int) ?_
     refine Rc (cl1 (en Tryz.func84) (Od.lc (Φ := IsI k2 0) 0 44) (fun x0 w' hE d0 => Calls.mono (Sign_f d0) fun _ _ h => h.int (rfl))) ?_
     refine Rc (bn (r := .bool false) (Od.loc 1 45) Od.con (hr := fun w => by go_simp)) ?_
     exact RgAll.nil
    intro v W13 e1 hΦ _
    replace S := S.mono e1
    have v2 : v 2 = .bool false := hΦ 2 (by decide)
    simp only [layL, Act.put, uAx, u0x, u1x, Nat.reduceAdd]
    rw [v2]
    clear v2 hΦ e1
    refine wpList_nil ?_
    go_upto_region 23 with (fail)
    refine rgs 3 [some 75, some 76, some 77] [IsI k2 (((nn : Nat) : Int)), IsV (.bool false), IsV (.bool true)] [] ?_ ?_
    ·refine Rc (ldI S 0 (w.heap.size + 1) 0 (Od.lit 3) ld_Int) ?_
     refine Rc (cl1 (en Tryz.func112) (Od.lc (Φ := IsI k2 (((nn : Nat) : Int))) 0 75) (fun x0 w' hE d0 => mone_f d0 HK.out.2 HONE.out)) ?_
     refine Rc (nt (Od.loc 1 76)) ?_
     exact RgAll.nil
    intro v W14 e1 hΦ _
    replace S := S.mono e1
    have v2 : v 2 = .bool true := hΦ 2 (by decide)
    simp only [layL, Act.put, uAx, u0x, u1x, Nat.reduceAdd]
    rw [v2]
    clear v2 hΦ e1
    refine wpList_nil ?_
    go_upto_region 24 with (fail)
    refine rgs 1 [some 4] [IsV (.int .i64 0)] [] ?_ ?_
    ·refine Rc (mv Od.con) ?_
     exact RgAll.nil
    intro v W15 e1 hΦ _
    replace S := S.mono e1
    have v0 : v 0 = .int .i64 0 := hΦ 0 (by decide)
    simp only [layL, Act.put, uAx, u0x, u1x]
    rw [v0]
    clear v0 hΦ e1
    refine wpList_nil ?_
    go_wp2_with fail
    exact bodyPost_ret (v := .int .i64 0) (by simp [results, Tryz.results62, go_sem]) rfl (⟨_, rfl, S.ext, HRR.out ▸ rfl⟩)
  ·obtain ⟨f, rfl⟩ : ∃ j, f = j + 1 := ⟨f - 1, by omega⟩
   obtain ⟨b, hb⟩ : ∃ b, (tws a).1 = b := ⟨_, rfl⟩
   obtain ⟨cc, hcc⟩ : ∃ c, (tws a).2 = c := ⟨_, rfl⟩
   have hts := tws_spec ha
   rw [hb, hcc] at hts
   have HTA := hid (And.intro hb hcc)
   have HAZ := hid (And.intro ha hab)
   have HSA := hid (show ((a : Nat) : Int).sign = 1 from Int.sign_eq_one_of_pos (by omega))
   obtain ⟨rb, hrb⟩ : ∃ r, b % 4 = r := ⟨_, rfl⟩
   obtain ⟨rn, hrn⟩ : ∃ r, nn % 4 = r := ⟨_, rfl⟩
   have HB4 := hid (show ((b : Nat) : Int) % ((4 : Nat) : Int) = ((rb : Nat) : Int) by omega)
   have HN4 := hid (show ((nn : Nat) : Int) % ((4 : Nat) : Int) = ((rn : Nat) : Int) by omega)
   obtain ⟨e3, he3⟩ : ∃ e, (rb == 3) = e := ⟨_, rfl⟩
   obtain ⟨f3, hf3⟩ : ∃ e, (rn == 3) = e := ⟨_, rfl⟩
   have HE3 := hid (show (((rb : Nat) : Int) == 3) = e3 ∧ (rb == 3) = e3 from ⟨by rw [← he3, Bool.eq_iff_iff, beq_iff_eq, beq_iff_eq]; omega, he3⟩)
   have HF3 := hid (show (((rn : Nat) : Int) == 3) = f3 ∧ (rn == 3) = f3 from ⟨by rw [← hf3, Bool.eq_iff_iff, beq_iff_eq, beq_iff_eq]; omega, hf3⟩)
   obtain ⟨na, hna⟩ : ∃ x, nn % b = x := ⟨_, rfl⟩
   have HBZ := hid (show ((b : Nat) : Int) ≠ 0 by omega)
   have HNM := hid (show ((nn : Nat) : Int) % ((b : Nat) : Int) = ((na : Nat) : Int) by rw [← hna]; rfl)
   have hlt : na < b := by rw [← hna]; exact Nat.mod_lt _ hts.2.1
   have HHN := hid (show na < gk ∧ na ≤ f ∧ b % 2 = 1 ∧ b ≤ 4611686018427387904 ∧ na ≤ 4611686018427387904 by omega)
   unfold krF at hr
   rw [if_neg (by omega), hb, hcc] at hr
   dsimp only at hr
   rcases Nat.mod_two_eq_zero_or_one cc with h2 | h2
   ·have HCC := hid (show ((cc : Nat) : Int) % 2 = 0 ∧ ((cc : Nat) : Int).tmod 2 = 0 by rw [Int.tmod_eq_emod_of_nonneg (by omega)]; omega)
    rw [if_neg (show ¬ (cc % 2 = 1) by omega), hna] at hr
    by_cases h3 : b % 4 = 3 ∧ nn % 4 = 3
    ·have HEF := hid (show (e3 && f3) = true by rw [← he3, ← hf3, Bool.and_eq_true, beq_iff_eq, beq_iff_eq]; omega)
     obtain ⟨kn, hkn⟩ : ∃ k, -kk = k := ⟨_, rfl⟩
     have HNG := hid (show IntKind.i64.wrap (-kk) = kn by rw [hkn]; simp only [IntKind.wrap_i64]; omega)
     have HHK := hid (show -1 ≤ kn ∧ kn ≤ 1 by omega)
     rw [if_pos h3, hkn] at hr
     have HHR := hid hr
     clear hr hg hf hodd hnb hab hkk ha hb hcc hts hrb hrn he3 hf3 hna hlt h2 h3 hkn
     go_upto_region 16 with (fail)
     refine rgs 3 [some 44, some 45, some 46] [IsI k2 (((a : Nat) : Int)), IsV (.int .i64 1), IsV (.bool true)] [] ?_ ?_
     ·refine Rc (ldI S 1 (w.heap.size) 0 (Od.lit 2) ld_Int) ?_
      refine Rc (cl1 (en Tryz.func84) (Od.lc (Φ := IsI k2 (((a : Nat) : Int))) 0 44) (fun x0 w' hE d0 => Calls.mono (Sign_f d0) fun _ _ h => h.int (HSA.out))) ?_
      refine Rc (bn (r := .bool true) (Od.loc 1 45) Od.con (hr := fun w => by go_simp)) ?_
      exact RgAll.nil
     intro v W16 e1 hΦ _
     replace S := S.mono e1
     have v2 : v 2 = .bool true := hΦ 2 (by decide)
     simp only [layL, Act.put, uAx, u0x, u1x, Nat.reduceAdd]
     rw [v2]
     clear v2 hΦ e1
     refine wpList_nil ?_
     go_upto_region 17 with (fail)
     refine rgs 5 [some 48, some 49, some 47, some 50, some 51] [IsI k2 (((a : Nat) : Int)), IsT2 (IsI k2 (((b : Nat) : Int))) (IsV (.int .i64 ((cc : Nat) : Int))), IsT2 (IsI k2 (((b : Nat) : Int))) (IsV (.int .i64 ((cc : Nat) : Int))), IsI k2 (((b : Nat) : Int)), IsV (.int .i64 ((cc : Nat) : Int))] [] ?_ ?_
     ·refine Rc (ldI S 1 (w.heap.size) 0 (Od.lit 2) ld_Int) ?_
      refine Rc (cl1 (en Tryz.func115) (Od.lc (Φ := IsI k2 (((a : Nat) : Int))) 0 48) (fun x0 w' hE d0 => (by have hh := twos_f d0 HK.out.2 HAZ.out; rw [HTA.out.1, HTA.out.2] at hh; exact hh))) ?_
      refine Rc (mv (Od.lc 1 49)) ?_
      refine Rc (ex (Od.loc 2 47) t20) ?_
      refine Rc (ex (Od.loc 2 47) t21) ?_
      exact RgAll.nil
     intro v W17 e1 hΦ _
     replace S := S.mono e1
     have h50 := hΦ 3 (by decide)
     have v4 : v 4 = .int .i64 ((cc : Nat) : Int) := hΦ 4 (by decide)
     simp only [layL, Act.put, uAx, u0x, u1x, Nat.reduceAdd]
     rw [v4]
     clear v4 hΦ e1
     try simp only [List.drop_succ_cons, List.drop_zero]
     (with_reducible refine stL ?_ (by rfl)); intro KK hKK; refine stI S 1 (w.heap.size) 0 h50 st_Int (fun W18 S2 G2 => hKK _ _ ?_) rfl
     replace S := S2; clear S2 G2 hKK KK h50
     simp only [u0x, u1x] at S
     refine wpList_step fun K hK => ?_; go_simp; refine hK _ _ ?_; clear hK K
     refine wpList_nil ?_
     go_upto_region 18 with (fail)
     refine rgs 3 [some 52, some 53, some 54] [IsV (.int .i64 ((cc : Nat) : Int)), IsV (.int .i64 0), IsV (.bool false)] [] ?_ ?_
     ·refine Rc (mv (Od.lit 6)) ?_
      refine Rc (bn (r := .int .i64 0) (Od.loc 0 52) Od.con (hr := fun w => by have hx9 := HCC.out.1; have hx8 := HCC.out.2; go_simp)) ?_
      refine Rc (bn (r := .bool false) (Od.loc 1 53) Od.con (hr := fun w => by go_simp)) ?_
      exact RgAll.nil
     intro v W19 e1 hΦ _
     replace S := S.mono e1
     have v2 : v 2 = .bool false := hΦ 2 (by decide)
     simp only [layL, Act.put, uAx, u0x, u1x, Nat.reduceAdd]
     rw [v2]
     clear v2 hΦ e1
     refine wpList_nil ?_
     go_upto_region 20 with (fail)
     refine rgs 8 [some 61, some 62, some 63, some 64, some 65, some 66, some 67, some 68] [IsI k2 (((b : Nat) : Int)), IsV (.int .u32 ((rb : Nat) : Int)), IsV (.bool e3), IsV (.bool e3), IsIf (e3) (IsI k2 (((nn : Nat) : Int))), IsIf (e3) (IsV (.int .u32 ((rn : Nat) : Int))), IsIf (e3) (IsV (.bool f3)), IsV (.bool true)] [] ?_ ?_ (hst := by repeat' (first | exact trivial | apply IsIf.stb | exact IsV.stb _ | exact IsI.stb _ _ | apply IsJ.stb | apply IsQ.stb | apply And.intro))
     ·refine Rc (ldI S 1 (w.heap.size) 0 (Od.lit 2) ld_Int) ?_
      refine Rc (cl2 (en Tryz.func116) (Od.lc (Φ := IsI k2 (((b : Nat) : Int))) 0 61) Od.con (fun x0 x1 w' hE d0 d1 => by { obtain rfl : x1 = .int .u32 4 := d1; exact (by have hh := low_f d0 4 (.inl rfl); rw [show (_ : Int) % ((4 : Nat) : Int) = _ from HB4.out] at hh; exact hh) })) ?_
      refine Rc (bn (r := .bool e3) (Od.loc 1 62) Od.con (hr := fun w => by have hx9 := HE3.out.1; have hx8 := HE3.out.2; go_simp)) ?_
      refine Rc (mv (Od.lc 2 63)) ?_
      refine RcB 3 64 e3 true (fun hb => by subst hb; exact ldI S 0 (w.heap.size + 1) 0 (Od.lit 3) ld_Int) ?_
      refine RcB 3 64 e3 true (fun hb => by subst hb; exact cl2 (en Tryz.func116) (Od.lc (Φ := IsI k2 (((nn : Nat) : Int))) 4 65) Od.con (fun x0 x1 w' hE d0 d1 => by { obtain rfl : x1 = .int .u32 4 := d1; exact (by have hh := low_f d0 4 (.inl rfl); rw [show (_ : Int) % ((4 : Nat) : Int) = _ from HN4.out] at hh; exact hh) })) ?_
      refine RcB 3 64 e3 true (fun hb => by subst hb; exact bn (r := .bool f3) (Od.loc 5 66) Od.con (hr := fun w => by have hx9 := HF3.out.1; have hx8 := HF3.out.2; go_simp)) ?_
      refine Rc (pkA (b2 := f3) (Od.loc 3 64) (fun hb => by subst hb; exact Od.lc 6 67) (HEF.out)) ?_
      exact RgAll.nil
     intro v W20 e1 hΦ _
     replace S := S.mono e1
     have v7 : v 7 = .bool true := hΦ 7 (by decide)
     simp only [layL, Act.put, uAx, u0x, u1x, Nat.reduceAdd]
     rw [v7]
     clear v7 hΦ e1
     refine wpList_nil ?_
     go_upto_region 21 with (fail)
     refine rgs 2 [some 69, some 70] [IsV (.int .i64 kk), IsV (.int .i64 kn)] [] ?_ ?_
     ·refine Rc (mv (Od.lit 5)) ?_
      refine Rc (un (r := .int .i64 kn) (Od.loc 0 69) (hr := fun w => by have hx9 := HNG.out; go_simp)) ?_
      exact RgAll.nil
     intro v W21 e1 hΦ _
     replace S := S.mono e1
     have v1 : v 1 = .int .i64 kn := hΦ 1 (by decide)
     simp only [layL, Act.put, uAx, u0x, u1x, Nat.reduceAdd]
     rw [v1]
     clear v1 hΦ e1
     refine wpList_step fun K hK => ?_; go_simp; refine hK _ _ ?_; clear hK K
     refine wpList_nil ?_
     go_upto_region 22 with (fail)
     refine rg 4 [some 71, some 72, some 73, some 74] [IsI k2 (((nn : Nat) : Int)), IsI k2 (((b : Nat) : Int)), IsI k2 (((na : Nat) : Int)), IsI k2 (((b : Nat) : Int))] [] 2 ?_ ?_
     ·refine Rc (ldI S 0 (w.heap.size + 1) 0 (Od.lit 3) ld_Int) ?_
      refine Rc (ldI S 1 (w.heap.size) 0 (Od.lit 2) ld_Int) ?_
      refine Rc (cl2 (en Tryz.func117) (Od.lc (Φ := IsI k2 (((nn : Nat) : Int))) 0 71) (Od.lc (Φ := IsI k2 (((b : Nat) : Int))) 1 72) (fun x0 x1 w' hE d0 d1 => Calls.mono (mmod_f d0 d1 HK.out.2 HK.out.2 HBZ.out) fun _ _ h => h.eqz HNM.out)) ?_
      refine Rc (ldI S 1 (w.heap.size) 0 (Od.lit 2) ld_Int) ?_
      exact RgAll.nil
     intro v W22 e1 hΦ _
     replace S := S.mono e1
     have h73 := hΦ 2 (by decide)
     have h74 := hΦ 3 (by decide)
     simp only [layL, Act.put, uAx, u0x, u1x, Nat.reduceAdd]
     clear hΦ e1
     refine stA 4 (h := fun KK hKK => stI S 1 (w.heap.size) 0 h73 st_Int (fun W23 S2 G2 => hKK _ _ ?_) rfl)
     replace h74 := (IsI.gstb _ _) _ _ _ G2 h74
     replace S := S2; clear S2 G2 hKK KK h73
     simp only [u0x, u1x] at S
     refine stA 5 (h := fun KK hKK => stI S 0 (w.heap.size + 1) 0 h74 st_Int (fun W24 S2 G2 => hKK _ _ ?_) rfl)
     replace S := S2; clear S2 G2 hKK KK h74
     simp only [u0x] at S
     refine wpAny_done (by kernel_rfl) ?_ _
     have S' := hid S; clear S
     go_wp2_with fail
     go_roundg na
     case measure => have := HHN.out; omega
     case rel => exact ⟨na, b, f, kn, rfl, rfl, by have := HHN.out; omega, HHN.out.2.2.1, by have := HHN.out; omega, by have := HHN.out; omega, HHK.out, HHR.out, S'⟩
    ·have HEF := hid (show (e3 && f3) = false by rw [← he3, ← hf3, Bool.eq_false_iff]; intro k; rw [Bool.and_eq_true, beq_iff_eq, beq_iff_eq] at k; exact h3 (by omega))
     have HHK := hid hkk
     rw [if_neg h3] at hr
     have HHR := hid hr
     clear hr hg hf hodd hnb hab hkk ha hb hcc hts hrb hrn he3 hf3 hna hlt h2 h3
     go_upto_region 16 with (fail)
     refine rgs 3 [some 44, some 45, some 46] [IsI k2 (((a : Nat) : Int)), IsV (.int .i64 1), IsV (.bool true)] [] ?_ ?_
     ·refine Rc (ldI S 1 (w.heap.size) 0 (Od.lit 2) ld_Int) ?_
      refine Rc (cl1 (en Tryz.func84) (Od.lc (Φ := IsI k2 (((a : Nat) : Int))) 0 44) (fun x0 w' hE d0 => Calls.mono (Sign_f d0) fun _ _ h => h.int (HSA.out))) ?_
      refine Rc (bn (r := .bool true) (Od.loc 1 45) Od.con (hr := fun w => by go_simp)) ?_
      exact RgAll.nil
     intro v W25 e1 hΦ _
     replace S := S.mono e1
     have v2 : v 2 = .bool true := hΦ 2 (by decide)
     simp only [layL, Act.put, uAx, u0x, u1x, Nat.reduceAdd]
     rw [v2]
     clear v2 hΦ e1
     refine wpList_nil ?_
     go_upto_region 17 with (fail)
     refine rgs 5 [some 48, some 49, some 47, some 50, some 51] [IsI k2 (((a : Nat) : Int)), IsT2 (IsI k2 (((b : Nat) : Int))) (IsV (.int .i64 ((cc : Nat) : Int))), IsT2 (IsI k2 (((b : Nat) : Int))) (IsV (.int .i64 ((cc : Nat) : Int))), IsI k2 (((b : Nat) : Int)), IsV (.int .i64 ((cc : Nat) : Int))] [] ?_ ?_
     ·refine Rc (ldI S 1 (w.heap.size) 0 (Od.lit 2) ld_Int) ?_
      refine Rc (cl1 (en Tryz.func115) (Od.lc (Φ := IsI k2 (((a : Nat) : Int))) 0 48) (fun x0 w' hE d0 => (by have hh := twos_f d0 HK.out.2 HAZ.out; rw [HTA.out.1, HTA.out.2] at hh; exact hh))) ?_
      refine Rc (mv (Od.lc 1 49)) ?_
      refine Rc (ex (Od.loc 2 47) t20) ?_
      refine Rc (ex (Od.loc 2 47) t21) ?_
      exact RgAll.nil
     intro v W26 e1 hΦ _
     replace S := S.mono e1
     have h50 := hΦ 3 (by decide)
     have v4 : v 4 = .int .i64 ((cc : Nat) : Int) := hΦ 4 (by decide)
     simp only [layL, Act.put, uAx, u0x, u1x, Nat.reduceAdd]
     rw [v4]
     clear v4 hΦ e1
     try simp only [List.drop_succ_cons, List.drop_zero]
     (with_reducible refine stL ?_ (by rfl)); intro KK hKK; refine stI S 1 (w.heap.size) 0 h50 st_Int (fun W27 S2 G2 => hKK _ _ ?_) rfl
     replace S := S2; clear S2 G2 hKK KK h50
     simp only [u0x, u1x] at S
     refine wpList_step fun K hK => ?_; go_simp; refine hK _ _ ?_; clear hK K
     refine wpList_nil ?_
     go_upto_region 18 with (fail)
     refine rgs 3 [some 52, some 53, some 54] [IsV (.int .i64 ((cc : Nat) : Int)), IsV (.int .i64 0), IsV (.bool false)] [] ?_ ?_
     ·refine Rc (mv (Od.lit 6)) ?_
      refine Rc (bn (r := .int .i64 0) (Od.loc 0 52) Od.con (hr := fun w => by have hx9 := HCC.out.1; have hx8 := HCC.out.2; go_simp)) ?_
      refine Rc (bn (r := .bool false) (Od.loc 1 53) Od.con (hr := fun w => by go_simp)) ?_
      exact RgAll.nil
     intro v W28 e1 hΦ _
     replace S := S.mono e1
     have v2 : v 2 = .bool false := hΦ 2 (by decide)
     simp only [layL, Act.put, uAx, u0x, u1x, Nat.reduceAdd]
     rw [v2]
     clear v2 hΦ e1
     refine wpList_nil ?_
     go_upto_region 20 with (fail)
     refine rgs 8 [some 61, some 62, some 63, some 64, some 65, some 66, some 67, some 68] [IsI k2 (((b : Nat) : Int)), IsV (.int .u32 ((rb : Nat) : Int)), IsV (.bool e3), IsV (.bool e3), IsIf (e3) (IsI k2 (((nn : Nat) : Int))), IsIf (e3) (IsV (.int .u32 ((rn : Nat) : Int))), IsIf (e3) (IsV (.bool f3)), IsV (.bool false)] [] ?_ ?_ (hst := by repeat' (first | exact trivial | apply IsIf.stb | exact IsV.stb _ | exact IsI.stb _ _ | apply IsJ.stb | apply IsQ.stb | apply And.intro))
     ·refine Rc (ldI S 1 (w.heap.size) 0 (Od.lit 2) ld_Int) ?_
      refine Rc (cl2 (en Tryz.func116) (Od.lc (Φ := IsI k2 (((b : Nat) : Int))) 0 61) Od.con (fun x0 x1 w' hE d0 d1 => by { obtain rfl : x1 = .int .u32 4 := d1; exact (by have hh := low_f d0 4 (.inl rfl); rw [show (_ : Int) % ((4 : Nat) : Int) = _ from HB4.out] at hh; exact hh) })) ?_
      refine Rc (bn (r := .bool e3) (Od.loc 1 62) Od.con (hr := fun w => by have hx9 := HE3.out.1; have hx8 := HE3.out.2; go_simp)) ?_
      refine Rc (mv (Od.lc 2 63)) ?_
      refine RcB 3 64 e3 true (fun hb => by subst hb; exact ldI S 0 (w.heap.size + 1) 0 (Od.lit 3) ld_Int) ?_
      refine RcB 3 64 e3 true (fun hb => by subst hb; exact cl2 (en Tryz.func116) (Od.lc (Φ := IsI k2 (((nn : Nat) : Int))) 4 65) Od.con (fun x0 x1 w' hE d0 d1 => by { obtain rfl : x1 = .int .u32 4 := d1; exact (by have hh := low_f d0 4 (.inl rfl); rw [show (_ : Int) % ((4 : Nat) : Int) = _ from HN4.out] at hh; exact hh) })) ?_
      refine RcB 3 64 e3 true (fun hb => by subst hb; exact bn (r := .bool f3) (Od.loc 5 66) Od.con (hr := fun w => by have hx9 := HF3.out.1; have hx8 := HF3.out.2; go_simp)) ?_
      refine Rc (pkA (b2 := f3) (Od.loc 3 64) (fun hb => by subst hb; exact Od.lc 6 67) (HEF.out)) ?_
      exact RgAll.nil
     intro v W29 e1 hΦ _
     replace S := S.mono e1
     have v7 : v 7 = .bool false := hΦ 7 (by decide)
     simp only [layL, Act.put, uAx, u0x, u1x, Nat.reduceAdd]
     rw [v7]
     clear v7 hΦ e1
     refine wpList_nil ?_
     go_upto_region 22 with (fail)
     refine rg 4 [some 71, some 72, some 73, some 74] [IsI k2 (((nn : Nat) : Int)), IsI k2 (((b : Nat) : Int)), IsI k2 (((na : Nat) : Int)), IsI k2 (((b : Nat) : Int))] [] 2 ?_ ?_
     ·refine Rc (ldI S 0 (w.heap.size + 1) 0 (Od.lit 3) ld_Int) ?_
      refine Rc (ldI S 1 (w.heap.size) 0 (Od.lit 2) ld_Int) ?_
      refine Rc (cl2 (en Tryz.func117) (Od.lc (Φ := IsI k2 (((nn : Nat) : Int))) 0 71) (Od.lc (Φ := IsI k2 (((b : Nat) : Int))) 1 72) (fun x0 x1 w' hE d0 d1 => Calls.mono (mmod_f d0 d1 HK.out.2 HK.out.2 HBZ.out) fun _ _ h => h.eqz HNM.out)) ?_
      refine Rc (ldI S 1 (w.heap.size) 0 (Od.lit 2) ld_Int) ?_
      exact RgAll.nil
     intro v W30 e1 hΦ _
     replace S := S.mono e1
     have h73 := hΦ 2 (by decide)
     have h74 := hΦ 3 (by decide)
     simp only [layL, Act.put, uAx, u0x, u1x, Nat.reduceAdd]
     clear hΦ e1
     refine stA 4 (h := fun KK hKK => stI S 1 (w.heap.size) 0 h73 st_Int (fun W31 S2 G2 => hKK _ _ ?_) rfl)
     replace h74 := (IsI.gstb _ _) _ _ _ G2 h74
     replace S := S2; clear S2 G2 hKK KK h73
     simp only [u0x, u1x] at S
     refine stA 5 (h := fun KK hKK => stI S 0 (w.heap.size + 1) 0 h74 st_Int (fun W32 S2 G2 => hKK _ _ ?_) rfl)
     replace S := S2; clear S2 G2 hKK KK h74
     simp only [u0x] at S
     refine wpAny_done (by kernel_rfl) ?_ _
     have S' := hid S; clear S
     go_wp2_with fail
     go_roundg na
     case measure => have := HHN.out; omega
     case rel => exact ⟨na, b, f, kk, rfl, rfl, by have := HHN.out; omega, HHN.out.2.2.1, by have := HHN.out; omega, by have := HHN.out; omega, HHK.out, HHR.out, S'⟩
   ·obtain ⟨r, hr8⟩ : ∃ r, nn % 8 = r := ⟨_, rfl⟩
    have HR8 := hid (show ((nn : Nat) : Int) % ((8 : Nat) : Int) = ((r : Nat) : Int) ∧ r < 8 by omega)
    have HCC := hid (show ((cc : Nat) : Int) % 2 = 1 ∧ ((cc : Nat) : Int).tmod 2 = 1 by rw [Int.tmod_eq_emod_of_nonneg (by omega)]; omega)
    obtain ⟨kq, hkq⟩ : ∃ k, kk * sg8 r = k := ⟨_, rfl⟩
    have hkq2 : -1 ≤ kq ∧ kq ≤ 1 := by rw [← hkq]; exact mul_sg kk r hkk
    have HKQ := hid (show IntKind.i64.wrap (kk * sg8 r) = kq by rw [hkq]; simp only [IntKind.wrap_i64]; omega)
    rw [if_pos h2, hr8, hkq, hna] at hr
    by_cases h3 : b % 4 = 3 ∧ nn % 4 = 3
    ·have HEF := hid (show (e3 && f3) = true by rw [← he3, ← hf3, Bool.and_eq_true, beq_iff_eq, beq_iff_eq]; omega)
     obtain ⟨kn, hkn⟩ : ∃ k, -kq = k := ⟨_, rfl⟩
     have HNG := hid (show IntKind.i64.wrap (-kq) = kn by rw [hkn]; simp only [IntKind.wrap_i64]; omega)
     have HHK := hid (show -1 ≤ kn ∧ kn ≤ 1 by omega)
     rw [if_pos h3, hkn] at hr
     have HHR := hid hr
     clear hr hg hf hodd hnb hab hkk ha hb hcc hts hrb hrn he3 hf3 hna hlt h2 h3 hkn hr8 hkq hkq2
     go_upto_region 16 with (fail)
     refine rgs 3 [some 44, some 45, some 46] [IsI k2 (((a : Nat) : Int)), IsV (.int .i64 1), IsV (.bool true)] [] ?_ ?_
     ·refine Rc (ldI S 1 (w.heap.size) 0 (Od.lit 2) ld_Int) ?_
      refine Rc (cl1 (en Tryz.func84) (Od.lc (Φ := IsI k2 (((a : Nat) : Int))) 0 44) (fun x0 w' hE d0 => Calls.mono (Sign_f d0) fun _ _ h => h.int (HSA.out))) ?_
      refine Rc (bn (r := .bool true) (Od.loc 1 45) Od.con (hr := fun w => by go_simp)) ?_
      exact RgAll.nil
     intro v W33 e1 hΦ _
     replace S := S.mono e1
     have v2 : v 2 = .bool true := hΦ 2 (by decide)
     simp only [layL, Act.put, uAx, u0x, u1x, Nat.reduceAdd]
     rw [v2]
     clear v2 hΦ e1
     refine wpList_nil ?_
     go_upto_region 17 with (fail)
     refine rgs 5 [some 48, some 49, some 47, some 50, some 51] [IsI k2 (((a : Nat) : Int)), IsT2 (IsI k2 (((b : Nat) : Int))) (IsV (.int .i64 ((cc : Nat) : Int))), IsT2 (IsI k2 (((b : Nat) : Int))) (IsV (.int .i64 ((cc : Nat) : Int))), IsI k2 (((b : Nat) : Int)), IsV (.int .i64 ((cc : Nat) : Int))] [] ?_ ?_
     ·refine Rc (ldI S 1 (w.heap.size) 0 (Od.lit 2) ld_Int) ?_
      refine Rc (cl1 (en Tryz.func115) (Od.lc (Φ := IsI k2 (((a : Nat) : Int))) 0 48) (fun x0 w' hE d0 => (by have hh := twos_f d0 HK.out.2 HAZ.out; rw [HTA.out.1, HTA.out.2] at hh; exact hh))) ?_
      refine Rc (mv (Od.lc 1 49)) ?_
      refine Rc (ex (Od.loc 2 47) t20) ?_
      refine Rc (ex (Od.loc 2 47) t21) ?_
      exact RgAll.nil
     intro v W34 e1 hΦ _
     replace S := S.mono e1
     have h50 := hΦ 3 (by decide)
     have v4 : v 4 = .int .i64 ((cc : Nat) : Int) := hΦ 4 (by decide)
     simp only [layL, Act.put, uAx, u0x, u1x, Nat.reduceAdd]
     rw [v4]
     clear v4 hΦ e1
     try simp only [List.drop_succ_cons, List.drop_zero]
     (with_reducible refine stL ?_ (by rfl)); intro KK hKK; refine stI S 1 (w.heap.size) 0 h50 st_Int (fun W35 S2 G2 => hKK _ _ ?_) rfl
     replace S := S2; clear S2 G2 hKK KK h50
     simp only [u0x, u1x] at S
     refine wpList_step fun K hK => ?_; go_simp; refine hK _ _ ?_; clear hK K
     refine wpList_nil ?_
     go_upto_region 18 with (fail)
     refine rgs 3 [some 52, some 53, some 54] [IsV (.int .i64 ((cc : Nat) : Int)), IsV (.int .i64 1), IsV (.bool true)] [] ?_ ?_
     ·refine Rc (mv (Od.lit 6)) ?_
      refine Rc (bn (r := .int .i64 1) (Od.loc 0 52) Od.con (hr := fun w => by have hx9 := HCC.out.1; have hx8 := HCC.out.2; go_simp)) ?_
      refine Rc (bn (r := .bool true) (Od.loc 1 53) Od.con (hr := fun w => by go_simp)) ?_
      exact RgAll.nil
     intro v W36 e1 hΦ _
     replace S := S.mono e1
     have v2 : v 2 = .bool true := hΦ 2 (by decide)
     simp only [layL, Act.put, uAx, u0x, u1x, Nat.reduceAdd]
     rw [v2]
     clear v2 hΦ e1
     refine wpList_nil ?_
     go_upto_region 19 with (fail)
     refine rgs 6 [some 55, some 56, some 57, some 58, some 59, some 60] [IsV (.int .i64 kk), IsI k2 (((nn : Nat) : Int)), IsV (.int .u32 ((r : Nat) : Int)), IsV (.pointer (some ⟨0, r, none⟩)), IsV (.int .i64 (sg8 r)), IsV (.int .i64 kq)] [] ?_ ?_
     ·refine Rc (mv (Od.lit 5)) ?_
      refine Rc (ldI S 0 (w.heap.size + 1) 0 (Od.lit 3) ld_Int) ?_
      refine Rc (cl2 (en Tryz.func116) (Od.lc (Φ := IsI k2 (((nn : Nat) : Int))) 1 56) Od.con (fun x0 x1 w' hE d0 d1 => by { obtain rfl : x1 = .int .u32 8 := d1; exact (by have hh := low_f d0 8 (.inr rfl); rw [show (_ : Int) % ((8 : Nat) : Int) = _ from HR8.out.1] at hh; exact hh) })) ?_
      refine Rc (ix (ia_sg r HR8.out.2) (Od.glb 0) (Od.lc 2 57)) ?_
      refine Rc (ldG (fun w2 hE => (HSG.out.ext (S.ext.trans hE)) r HR8.out.2) (Od.lc 3 58)) ?_
      refine Rc (bn (r := .int .i64 kq) (Od.loc 0 55) (Od.loc 4 59) (hr := fun w => by have hx9 := HKQ.out; go_simp)) ?_
      exact RgAll.nil
     intro v W37 e1 hΦ _
     replace S := S.mono e1
     have v5 : v 5 = .int .i64 kq := hΦ 5 (by decide)
     simp only [layL, Act.put, uAx, u0x, u1x, Nat.reduceAdd]
     rw [v5]
     clear v5 hΦ e1
     refine wpList_step fun K hK => ?_; go_simp; refine hK _ _ ?_; clear hK K
     refine wpList_nil ?_
     go_upto_region 20 with (fail)
     refine rgs 8 [some 61, some 62, some 63, some 64, some 65, some 66, some 67, some 68] [IsI k2 (((b : Nat) : Int)), IsV (.int .u32 ((rb : Nat) : Int)), IsV (.bool e3), IsV (.bool e3), IsIf (e3) (IsI k2 (((nn : Nat) : Int))), IsIf (e3) (IsV (.int .u32 ((rn : Nat) : Int))), IsIf (e3) (IsV (.bool f3)), IsV (.bool true)] [] ?_ ?_ (hst := by repeat' (first | exact trivial | apply IsIf.stb | exact IsV.stb _ | exact IsI.stb _ _ | apply IsJ.stb | apply IsQ.stb | apply And.intro))
     ·refine Rc (ldI S 1 (w.heap.size) 0 (Od.lit 2) ld_Int) ?_
      refine Rc (cl2 (en Tryz.func116) (Od.lc (Φ := IsI k2 (((b : Nat) : Int))) 0 61) Od.con (fun x0 x1 w' hE d0 d1 => by { obtain rfl : x1 = .int .u32 4 := d1; exact (by have hh := low_f d0 4 (.inl rfl); rw [show (_ : Int) % ((4 : Nat) : Int) = _ from HB4.out] at hh; exact hh) })) ?_
      refine Rc (bn (r := .bool e3) (Od.loc 1 62) Od.con (hr := fun w => by have hx9 := HE3.out.1; have hx8 := HE3.out.2; go_simp)) ?_
      refine Rc (mv (Od.lc 2 63)) ?_
      refine RcB 3 64 e3 true (fun hb => by subst hb; exact ldI S 0 (w.heap.size + 1) 0 (Od.lit 3) ld_Int) ?_
      refine RcB 3 64 e3 true (fun hb => by subst hb; exact cl2 (en Tryz.func116) (Od.lc (Φ := IsI k2 (((nn : Nat) : Int))) 4 65) Od.con (fun x0 x1 w' hE d0 d1 => by { obtain rfl : x1 = .int .u32 4 := d1; exact (by have hh := low_f d0 4 (.inl rfl); rw [show (_ : Int) % ((4 : Nat) : Int) = _ from HN4.out] at hh; exact hh) })) ?_
      refine RcB 3 64 e3 true (fun hb => by subst hb; exact bn (r := .bool f3) (Od.loc 5 66) Od.con (hr := fun w => by have hx9 := HF3.out.1; have hx8 := HF3.out.2; go_simp)) ?_
      refine Rc (pkA (b2 := f3) (Od.loc 3 64) (fun hb => by subst hb; exact Od.lc 6 67) (HEF.out)) ?_
      exact RgAll.nil
     intro v W38 e1 hΦ _
     replace S := S.mono e1
     have v7 : v 7 = .bool true := hΦ 7 (by decide)
     simp only [layL, Act.put, uAx, u0x, u1x, Nat.reduceAdd]
     rw [v7]
     clear v7 hΦ e1
     refine wpList_nil ?_
     go_upto_region 21 with (fail)
     refine rgs 2 [some 69, some 70] [IsV (.int .i64 kq), IsV (.int .i64 kn)] [] ?_ ?_
     ·refine Rc (mv (Od.lit 5)) ?_
      refine Rc (un (r := .int .i64 kn) (Od.loc 0 69) (hr := fun w => by have hx9 := HNG.out; go_simp)) ?_
      exact RgAll.nil
     intro v W39 e1 hΦ _
     replace S := S.mono e1
     have v1 : v 1 = .int .i64 kn := hΦ 1 (by decide)
     simp only [layL, Act.put, uAx, u0x, u1x, Nat.reduceAdd]
     rw [v1]
     clear v1 hΦ e1
     refine wpList_step fun K hK => ?_; go_simp; refine hK _ _ ?_; clear hK K
     refine wpList_nil ?_
     go_upto_region 22 with (fail)
     refine rg 4 [some 71, some 72, some 73, some 74] [IsI k2 (((nn : Nat) : Int)), IsI k2 (((b : Nat) : Int)), IsI k2 (((na : Nat) : Int)), IsI k2 (((b : Nat) : Int))] [] 2 ?_ ?_
     ·refine Rc (ldI S 0 (w.heap.size + 1) 0 (Od.lit 3) ld_Int) ?_
      refine Rc (ldI S 1 (w.heap.size) 0 (Od.lit 2) ld_Int) ?_
      refine Rc (cl2 (en Tryz.func117) (Od.lc (Φ := IsI k2 (((nn : Nat) : Int))) 0 71) (Od.lc (Φ := IsI k2 (((b : Nat) : Int))) 1 72) (fun x0 x1 w' hE d0 d1 => Calls.mono (mmod_f d0 d1 HK.out.2 HK.out.2 HBZ.out) fun _ _ h => h.eqz HNM.out)) ?_
      refine Rc (ldI S 1 (w.heap.size) 0 (Od.lit 2) ld_Int) ?_
      exact RgAll.nil
     intro v W40 e1 hΦ _
     replace S := S.mono e1
     have h73 := hΦ 2 (by decide)
     have h74 := hΦ 3 (by decide)
     simp only [layL, Act.put, uAx, u0x, u1x, Nat.reduceAdd]
     clear hΦ e1
     refine stA 4 (h := fun KK hKK => stI S 1 (w.heap.size) 0 h73 st_Int (fun W41 S2 G2 => hKK _ _ ?_) rfl)
     replace h74 := (IsI.gstb _ _) _ _ _ G2 h74
     replace S := S2; clear S2 G2 hKK KK h73
     simp only [u0x, u1x] at S
     refine stA 5 (h := fun KK hKK => stI S 0 (w.heap.size + 1) 0 h74 st_Int (fun W42 S2 G2 => hKK _ _ ?_) rfl)
     replace S := S2; clear S2 G2 hKK KK h74
     simp only [u0x] at S
     refine wpAny_done (by kernel_rfl) ?_ _
     have S' := hid S; clear S
     go_wp2_with fail
     go_roundg na
     case measure => have := HHN.out; omega
     case rel => exact ⟨na, b, f, kn, rfl, rfl, by have := HHN.out; omega, HHN.out.2.2.1, by have := HHN.out; omega, by have := HHN.out; omega, HHK.out, HHR.out, S'⟩
    ·have HEF := hid (show (e3 && f3) = false by rw [← he3, ← hf3, Bool.eq_false_iff]; intro k; rw [Bool.and_eq_true, beq_iff_eq, beq_iff_eq] at k; exact h3 (by omega))
     have HHK := hid hkq2
     rw [if_neg h3] at hr
     have HHR := hid hr
     clear hr hg hf hodd hnb hab hkk ha hb hcc hts hrb hrn he3 hf3 hna hlt h2 h3 hr8 hkq hkq2
     go_upto_region 16 with (fail)
     refine rgs 3 [some 44, some 45, some 46] [IsI k2 (((a : Nat) : Int)), IsV (.int .i64 1), IsV (.bool true)] [] ?_ ?_
     ·refine Rc (ldI S 1 (w.heap.size) 0 (Od.lit 2) ld_Int) ?_
      refine Rc (cl1 (en Tryz.func84) (Od.lc (Φ := IsI k2 (((a : Nat) : Int))) 0 44) (fun x0 w' hE d0 => Calls.mono (Sign_f d0) fun _ _ h => h.int (HSA.out))) ?_
      refine Rc (bn (r := .bool true) (Od.loc 1 45) Od.con (hr := fun w => by go_simp)) ?_
      exact RgAll.nil
     intro v W43 e1 hΦ _
     replace S := S.mono e1
     have v2 : v 2 = .bool true := hΦ 2 (by decide)
     simp only [layL, Act.put, uAx, u0x, u1x, Nat.reduceAdd]
     rw [v2]
     clear v2 hΦ e1
     refine wpList_nil ?_
     go_upto_region 17 with (fail)
     refine rgs 5 [some 48, some 49, some 47, some 50, some 51] [IsI k2 (((a : Nat) : Int)), IsT2 (IsI k2 (((b : Nat) : Int))) (IsV (.int .i64 ((cc : Nat) : Int))), IsT2 (IsI k2 (((b : Nat) : Int))) (IsV (.int .i64 ((cc : Nat) : Int))), IsI k2 (((b : Nat) : Int)), IsV (.int .i64 ((cc : Nat) : Int))] [] ?_ ?_
     ·refine Rc (ldI S 1 (w.heap.size) 0 (Od.lit 2) ld_Int) ?_
      refine Rc (cl1 (en Tryz.func115) (Od.lc (Φ := IsI k2 (((a : Nat) : Int))) 0 48) (fun x0 w' hE d0 => (by have hh := twos_f d0 HK.out.2 HAZ.out; rw [HTA.out.1, HTA.out.2] at hh; exact hh))) ?_
      refine Rc (mv (Od.lc 1 49)) ?_
      refine Rc (ex (Od.loc 2 47) t20) ?_
      refine Rc (ex (Od.loc 2 47) t21) ?_
      exact RgAll.nil
     intro v W44 e1 hΦ _
     replace S := S.mono e1
     have h50 := hΦ 3 (by decide)
     have v4 : v 4 = .int .i64 ((cc : Nat) : Int) := hΦ 4 (by decide)
     simp only [layL, Act.put, uAx, u0x, u1x, Nat.reduceAdd]
     rw [v4]
     clear v4 hΦ e1
     try simp only [List.drop_succ_cons, List.drop_zero]
     (with_reducible refine stL ?_ (by rfl)); intro KK hKK; refine stI S 1 (w.heap.size) 0 h50 st_Int (fun W45 S2 G2 => hKK _ _ ?_) rfl
     replace S := S2; clear S2 G2 hKK KK h50
     simp only [u0x, u1x] at S
     refine wpList_step fun K hK => ?_; go_simp; refine hK _ _ ?_; clear hK K
     refine wpList_nil ?_
     go_upto_region 18 with (fail)
     refine rgs 3 [some 52, some 53, some 54] [IsV (.int .i64 ((cc : Nat) : Int)), IsV (.int .i64 1), IsV (.bool true)] [] ?_ ?_
     ·refine Rc (mv (Od.lit 6)) ?_
      refine Rc (bn (r := .int .i64 1) (Od.loc 0 52) Od.con (hr := fun w => by have hx9 := HCC.out.1; have hx8 := HCC.out.2; go_simp)) ?_
      refine Rc (bn (r := .bool true) (Od.loc 1 53) Od.con (hr := fun w => by go_simp)) ?_
      exact RgAll.nil
     intro v W46 e1 hΦ _
     replace S := S.mono e1
     have v2 : v 2 = .bool true := hΦ 2 (by decide)
     simp only [layL, Act.put, uAx, u0x, u1x, Nat.reduceAdd]
     rw [v2]
     clear v2 hΦ e1
     refine wpList_nil ?_
     go_upto_region 19 with (fail)
     refine rgs 6 [some 55, some 56, some 57, some 58, some 59, some 60] [IsV (.int .i64 kk), IsI k2 (((nn : Nat) : Int)), IsV (.int .u32 ((r : Nat) : Int)), IsV (.pointer (some ⟨0, r, none⟩)), IsV (.int .i64 (sg8 r)), IsV (.int .i64 kq)] [] ?_ ?_
     ·refine Rc (mv (Od.lit 5)) ?_
      refine Rc (ldI S 0 (w.heap.size + 1) 0 (Od.lit 3) ld_Int) ?_
      refine Rc (cl2 (en Tryz.func116) (Od.lc (Φ := IsI k2 (((nn : Nat) : Int))) 1 56) Od.con (fun x0 x1 w' hE d0 d1 => by { obtain rfl : x1 = .int .u32 8 := d1; exact (by have hh := low_f d0 8 (.inr rfl); rw [show (_ : Int) % ((8 : Nat) : Int) = _ from HR8.out.1] at hh; exact hh) })) ?_
      refine Rc (ix (ia_sg r HR8.out.2) (Od.glb 0) (Od.lc 2 57)) ?_
      refine Rc (ldG (fun w2 hE => (HSG.out.ext (S.ext.trans hE)) r HR8.out.2) (Od.lc 3 58)) ?_
      refine Rc (bn (r := .int .i64 kq) (Od.loc 0 55) (Od.loc 4 59) (hr := fun w => by have hx9 := HKQ.out; go_simp)) ?_
      exact RgAll.nil
     intro v W47 e1 hΦ _
     replace S := S.mono e1
     have v5 : v 5 = .int .i64 kq := hΦ 5 (by decide)
     simp only [layL, Act.put, uAx, u0x, u1x, Nat.reduceAdd]
     rw [v5]
     clear v5 hΦ e1
     refine wpList_step fun K hK => ?_; go_simp; refine hK _ _ ?_; clear hK K
     refine wpList_nil ?_
     go_upto_region 20 with (fail)
     refine rgs 8 [some 61, some 62, some 63, some 64, some 65, some 66, some 67, some 68] [IsI k2 (((b : Nat) : Int)), IsV (.int .u32 ((rb : Nat) : Int)), IsV (.bool e3), IsV (.bool e3), IsIf (e3) (IsI k2 (((nn : Nat) : Int))), IsIf (e3) (IsV (.int .u32 ((rn : Nat) : Int))), IsIf (e3) (IsV (.bool f3)), IsV (.bool false)] [] ?_ ?_ (hst := by repeat' (first | exact trivial | apply IsIf.stb | exact IsV.stb _ | exact IsI.stb _ _ | apply IsJ.stb | apply IsQ.stb | apply And.intro))
     ·refine Rc (ldI S 1 (w.heap.size) 0 (Od.lit 2) ld_Int) ?_
      refine Rc (cl2 (en Tryz.func116) (Od.lc (Φ := IsI k2 (((b : Nat) : Int))) 0 61) Od.con (fun x0 x1 w' hE d0 d1 => by { obtain rfl : x1 = .int .u32 4 := d1; exact (by have hh := low_f d0 4 (.inl rfl); rw [show (_ : Int) % ((4 : Nat) : Int) = _ from HB4.out] at hh; exact hh) })) ?_
      refine Rc (bn (r := .bool e3) (Od.loc 1 62) Od.con (hr := fun w => by have hx9 := HE3.out.1; have hx8 := HE3.out.2; go_simp)) ?_
      refine Rc (mv (Od.lc 2 63)) ?_
      refine RcB 3 64 e3 true (fun hb => by subst hb; exact ldI S 0 (w.heap.size + 1) 0 (Od.lit 3) ld_Int) ?_
      refine RcB 3 64 e3 true (fun hb => by subst hb; exact cl2 (en Tryz.func116) (Od.lc (Φ := IsI k2 (((nn : Nat) : Int))) 4 65) Od.con (fun x0 x1 w' hE d0 d1 => by { obtain rfl : x1 = .int .u32 4 := d1; exact (by have hh := low_f d0 4 (.inl rfl); rw [show (_ : Int) % ((4 : Nat) : Int) = _ from HN4.out] at hh; exact hh) })) ?_
      refine RcB 3 64 e3 true (fun hb => by subst hb; exact bn (r := .bool f3) (Od.loc 5 66) Od.con (hr := fun w => by have hx9 := HF3.out.1; have hx8 := HF3.out.2; go_simp)) ?_
      refine Rc (pkA (b2 := f3) (Od.loc 3 64) (fun hb => by subst hb; exact Od.lc 6 67) (HEF.out)) ?_
      exact RgAll.nil
     intro v W48 e1 hΦ _
     replace S := S.mono e1
     have v7 : v 7 = .bool false := hΦ 7 (by decide)
     simp only [layL, Act.put, uAx, u0x, u1x, Nat.reduceAdd]
     rw [v7]
     clear v7 hΦ e1
     refine wpList_nil ?_
     go_upto_region 22 with (fail)
     refine rg 4 [some 71, some 72, some 73, some 74] [IsI k2 (((nn : Nat) : Int)), IsI k2 (((b : Nat) : Int)), IsI k2 (((na : Nat) : Int)), IsI k2 (((b : Nat) : Int))] [] 2 ?_ ?_
     ·refine Rc (ldI S 0 (w.heap.size + 1) 0 (Od.lit 3) ld_Int) ?_
      refine Rc (ldI S 1 (w.heap.size) 0 (Od.lit 2) ld_Int) ?_
      refine Rc (cl2 (en Tryz.func117) (Od.lc (Φ := IsI k2 (((nn : Nat) : Int))) 0 71) (Od.lc (Φ := IsI k2 (((b : Nat) : Int))) 1 72) (fun x0 x1 w' hE d0 d1 => Calls.mono (mmod_f d0 d1 HK.out.2 HK.out.2 HBZ.out) fun _ _ h => h.eqz HNM.out)) ?_
      refine Rc (ldI S 1 (w.heap.size) 0 (Od.lit 2) ld_Int) ?_
      exact RgAll.nil
     intro v W49 e1 hΦ _
     replace S := S.mono e1
     have h73 := hΦ 2 (by decide)
     have h74 := hΦ 3 (by decide)
     simp only [layL, Act.put, uAx, u0x, u1x, Nat.reduceAdd]
     clear hΦ e1
     refine stA 4 (h := fun KK hKK => stI S 1 (w.heap.size) 0 h73 st_Int (fun W50 S2 G2 => hKK _ _ ?_) rfl)
     replace h74 := (IsI.gstb _ _) _ _ _ G2 h74
     replace S := S2; clear S2 G2 hKK KK h73
     simp only [u0x, u1x] at S
     refine stA 5 (h := fun KK hKK => stI S 0 (w.heap.size + 1) 0 h74 st_Int (fun W51 S2 G2 => hKK _ _ ?_) rfl)
     replace S := S2; clear S2 G2 hKK KK h74
     simp only [u0x] at S
     refine wpAny_done (by kernel_rfl) ?_ _
     have S' := hid S; clear S
     go_wp2_with fail
     go_roundg na
     case measure => have := HHN.out; omega
     case rel => exact ⟨na, b, f, kq, rfl, rfl, by have := HHN.out; omega, HHN.out.2.2.1, by have := HHN.out; omega, by have := HHN.out; omega, HHK.out, HHR.out, S'⟩

set_option maxRecDepth 100000 in
set_option maxHeartbeats 4000000 in
theorem Kron_2 {k1 k2 n : Nat} {z : Int} {x y : Value} {w : World} (hx : IsI k1 z x w) (hy : IsI k2 ((n : Nat) : Int) y w) (HK : Hid (k1 ≤ 33554432 ∧ k2 ≤ 33554432)) (HSG : Hid (Sg w)) (HN : Hid (0 < n ∧ n ≤ 4611686018427387904)) (oa zE on nE : Bool) (HOA : Hid (decide (z % 2 = 1) = oa)) (HEA : Hid ((!oa) = zE)) (HON : Hid (decide (((n : Nat) : Int) % 2 = 1) = on)) (HEN : Hid ((!on) = nE)) (HS1 : Hid (((n : Nat) : Int).sign = 1)) (HEE : Hid ((zE && nE) = false)) (HN0 : Hid (0 ≤ ((n : Nat) : Int))) (m c a0 : Nat) (rr : Int) (HTW : Hid ((tws n).1 = m ∧ (tws n).2 = c)) (HCP : Hid (((c : Nat) : Int) % 2 = 1 ∧ ((c : Nat) : Int).tmod 2 = 1)) (HM0 : Hid (((m : Nat) : Int) ≠ 0)) (HA0 : Hid (z % ((m : Nat) : Int) = ((a0 : Nat) : Int))) (HB0 : Hid (a0 ≤ m ∧ m % 2 = 1 ∧ m ≤ 4611686018427387904 ∧ a0 ≤ 4611686018427387904)) (r : Nat) (HR : Hid (z % ((8 : Nat) : Int) = ((r : Nat) : Int) ∧ r < 8)) (HWS : Hid (IntKind.i64.wrap (1 * sg8 r) = sg8 r ∧ IntKind.i64.wrap (sg8 r) = sg8 r)) (HKR : Hid ((-1 ≤ sg8 r ∧ sg8 r ≤ 1) ∧ krF m a0 m (sg8 r) = rr)) : Calls Tryz.prog 62 #[x, y] w (Ret w (IsV (.int .i64 (rr)))) := by
 obtain ⟨s1, a1, n1, c1, rfl, h1⟩ := hx
 have h1 : IsI _ _ _ w := ⟨_, _, _, _, rfl, h1⟩
 obtain ⟨s2, a2, n2, c2, rfl, h2⟩ := hy
 have h2 : IsI _ _ _ w := ⟨_, _, _, _, rfl, h2⟩
 obtain ⟨W, hW, S⟩ : ∃ W, W = (w.alloc (.cells #[.bool s1, .slice a1 n1 c1] 33)).alloc (.cells #[.bool s2, .slice a2 n2 c2] 33) ∧ Sto w W [((w.heap.size + 1, 0), IsI k2 (((n : Nat) : Int))), ((w.heap.size, 0), IsI k1 z)] := ⟨_, rfl, (((Sto.start w).new1 (w.heap.size) (by simp) s1 a1 n1 c1 33 (IsI k1 z) (IsI.gstb _ _) (h1)).new1 (w.heap.size + 1) (by simp) s2 a2 n2 c2 33 (IsI k2 (((n : Nat) : Int))) (IsI.gstb _ _) (h2.ext ((Ext.refl _).alloc _)))⟩
 clear h1 h2
 go_enter Tryz.func62, Tryz.ntmps62
 go_upto_region 1 with (fail)
 rw [← hW]
 clear hW
 refine rgs 3 [some 7, some 8, some 9] [IsI k2 (((n : Nat) : Int)), IsV (.int .i64 1), IsV (.bool false)] [] ?_ ?_
 ·refine Rc (ldI S 0 (w.heap.size + 1) 0 (Od.lit 3) ld_Int) ?_
  refine Rc (cl1 (en Tryz.func84) (Od.lc (Φ := IsI k2 (((n : Nat) : Int))) 0 7) (fun x0 w' hE d0 => Calls.mono (Sign_f d0) fun _ _ h => h.int (HS1.out))) ?_
  refine Rc (bn (r := .bool false) (Od.loc 1 8) Od.con (hr := fun w => by go_simp)) ?_
  exact RgAll.nil
 intro v W1 e1 hΦ _
 replace S := S.mono e1
 have v2 : v 2 = .bool false := hΦ 2 (by decide)
 simp only [layL, Act.put, uAx, u0x, u1x, Nat.reduceAdd]
 rw [v2]
 clear v2 hΦ e1
 refine wpList_nil ?_
 go_upto_region 5 with (fail)
 refine rgs 8 [some 13, some 14, some 15, some 16, some 17, some 18, some 19, some 20] [IsI k1 z, IsV (.bool oa), IsV (.bool zE), IsV (.bool zE), IsIf (zE) (IsI k2 (((n : Nat) : Int))), IsIf (zE) (IsV (.bool on)), IsIf (zE) (IsV (.bool nE)), IsV (.bool false)] [] ?_ ?_ (hst := by repeat' (first | exact trivial | apply IsIf.stb | exact IsV.stb _ | exact IsI.stb _ _ | apply IsJ.stb | apply IsQ.stb | apply And.intro))
 ·refine Rc (ldI S 1 (w.heap.size) 0 (Od.lit 2) ld_Int) ?_
  refine Rc (cl1 (en Tryz.func113) (Od.lc (Φ := IsI k1 z) 0 13) (fun x0 w' hE d0 => Calls.mono (odd_f d0) fun _ _ h => RetB h HOA.out)) ?_
  refine Rc (un (r := .bool zE) (Od.loc 1 14) (hr := fun w => by have hx9 := HEA.out; go_simp)) ?_
  refine Rc (mv (Od.lc 2 15)) ?_
  refine RcB 3 16 zE true (fun hb => by subst hb; exact ldI S 0 (w.heap.size + 1) 0 (Od.lit 3) ld_Int) ?_
  refine RcB 3 16 zE true (fun hb => by subst hb; exact cl1 (en Tryz.func113) (Od.lc (Φ := IsI k2 (((n : Nat) : Int))) 4 17) (fun x0 w' hE d0 => Calls.mono (odd_f d0) fun _ _ h => RetB h HON.out)) ?_
  refine RcB 3 16 zE true (fun hb => by subst hb; exact un (r := .bool nE) (Od.loc 5 18) (hr := fun w => by have hx9 := HEN.out; go_simp)) ?_
  refine Rc (pkA (b2 := nE) (Od.loc 3 16) (fun hb => by subst hb; exact Od.lc 6 19) (HEE.out)) ?_
  exact RgAll.nil
 intro v W2 e1 hΦ _
 replace S := S.mono e1
 have v7 : v 7 = .bool false := hΦ 7 (by decide)
 simp only [layL, Act.put, uAx, u0x, u1x, Nat.reduceAdd]
 rw [v7]
 clear v7 hΦ e1
 refine wpList_nil ?_
 go_upto_region 7 with (fail)
 refine rgs 1 [some 5] [IsV (.int .i64 1)] [] ?_ ?_
 ·refine Rc (mv Od.con) ?_
  exact RgAll.nil
 intro v W3 e1 hΦ _
 replace S := S.mono e1
 have v0 : v 0 = .int .i64 1 := hΦ 0 (by decide)
 simp only [layL, Act.put, uAx, u0x, u1x]
 rw [v0]
 clear v0 hΦ e1
 refine wpList_nil ?_
 go_upto_region 8 with (fail)
 refine rgs 2 [some 21, some 22] [IsV (.pointer (some ⟨w.heap.size + 1, 0, none⟩)), IsV (.bool false)] [] ?_ ?_
 ·refine RgAll.cons (by { (with_reducible refine RgL.mk (by rfl) ?_); intro v a w' hE hd hf; have ev0 := hf.lit 3 (.pointer (some ⟨w.heap.size + 1, 0, none⟩)) (by kernel_rfl) (by kernel_rfl); clear hd hf; intro K hK; go_simp; exact hK.out _ _ (Ext.refl _) rfl (FreshIf.no rfl) }) ?_
  refine RgAll.cons (by { (with_reducible refine RgL.mk (by rfl) ?_); intro v a w' hE hd hf; have d0 : v 0 = .pointer (some ⟨w.heap.size + 1, 0, none⟩) := hd 0 (by kernel_rfl); have ev0 := hf.val 0 21 _ d0 (by kernel_rfl) (by kernel_rfl) (by kernel_rfl); clear d0; obtain ⟨szx, azx, nzx, czx, bzx, hzx⟩ := (S.mono hE).at 0 (w.heap.size + 1) 0 (IsI k2 (((n : Nat) : Int))) rfl; have Lzxa : World.cell? w' ⟨w.heap.size + 1, 0, none⟩ = some (.bool szx) := bzx.c0; have Lzxb : World.cell? w' ⟨w.heap.size + 1, 1, none⟩ = some (.slice azx nzx czx) := bzx.c1; obtain rfl := hzx.pos' (HN0.out); clear hd hf; intro K hK; go_simp; exact hK.out _ _ (Ext.refl _) rfl (FreshIf.no rfl) }) ?_
  exact RgAll.nil
 intro v W4 e1 hΦ _
 replace S := S.mono e1
 have v1 : v 1 = .bool false := hΦ 1 (by decide)
 simp only [layL, Act.put, uAx, u0x, u1x, Nat.reduceAdd]
 rw [v1]
 clear v1 hΦ e1
 refine wpList_nil ?_
 go_upto_region 12 with (fail)
 refine rgs 5 [some 28, some 29, some 27, some 30, some 31] [IsI k2 (((n : Nat) : Int)), IsT2 (IsI k2 (((m : Nat) : Int))) (IsV (.int .i64 ((c : Nat) : Int))), IsT2 (IsI k2 (((m : Nat) : Int))) (IsV (.int .i64 ((c : Nat) : Int))), IsI k2 (((m : Nat) : Int)), IsV (.int .i64 ((c : Nat) : Int))] [] ?_ ?_
 ·refine Rc (ldI S 0 (w.heap.size + 1) 0 (Od.lit 3) ld_Int) ?_
  refine Rc (cl1 (en Tryz.func115) (Od.lc (Φ := IsI k2 (((n : Nat) : Int))) 0 28) (fun x0 w' hE d0 => (by have hh := twos_f d0 HK.out.2 HN.out; rw [HTW.out.1, HTW.out.2] at hh; exact hh))) ?_
  refine Rc (mv (Od.lc 1 29)) ?_
  refine Rc (ex (Od.loc 2 27) t20) ?_
  refine Rc (ex (Od.loc 2 27) t21) ?_
  exact RgAll.nil
 intro v W5 e1 hΦ _
 replace S := S.mono e1
 have h30 := hΦ 3 (by decide)
 have v4 : v 4 = .int .i64 ((c : Nat) : Int) := hΦ 4 (by decide)
 simp only [layL, Act.put, uAx, u0x, u1x, Nat.reduceAdd]
 rw [v4]
 clear v4 hΦ e1
 try simp only [List.drop_succ_cons, List.drop_zero]
 (with_reducible refine stL ?_ (by rfl)); intro KK hKK; refine stI S 0 (w.heap.size + 1) 0 h30 st_Int (fun W6 S2 G2 => hKK _ _ ?_) rfl
 replace S := S2; clear S2 G2 hKK KK h30
 simp only [u0x] at S
 refine wpList_step fun K hK => ?_; go_simp; refine hK _ _ ?_; clear hK K
 refine wpList_nil ?_
 go_upto_region 13 with (fail)
 refine rgs 3 [some 32, some 33, some 34] [IsV (.int .i64 ((c : Nat) : Int)), IsV (.int .i64 1), IsV (.bool true)] [] ?_ ?_
 ·refine Rc (mv (Od.lit 6)) ?_
  refine Rc (bn (r := .int .i64 1) (Od.loc 0 32) Od.con (hr := fun w => by have hx9 := HCP.out.1; have hx8 := HCP.out.2; go_simp)) ?_
  refine Rc (bn (r := .bool true) (Od.loc 1 33) Od.con (hr := fun w => by go_simp)) ?_
  exact RgAll.nil
 intro v W7 e1 hΦ _
 replace S := S.mono e1
 have v2 : v 2 = .bool true := hΦ 2 (by decide)
 simp only [layL, Act.put, uAx, u0x, u1x, Nat.reduceAdd]
 rw [v2]
 clear v2 hΦ e1
 refine wpList_nil ?_
 go_upto_region 14 with (fail)
 refine rgs 6 [some 35, some 36, some 37, some 38, some 39, some 40] [IsV (.int .i64 1), IsI k1 z, IsV (.int .u32 ((r : Nat) : Int)), IsV (.pointer (some ⟨0, r, none⟩)), IsV (.int .i64 (sg8 r)), IsV (.int .i64 (sg8 r))] [] ?_ ?_
 ·refine Rc (mv (Od.lit 5)) ?_
  refine Rc (ldI S 1 (w.heap.size) 0 (Od.lit 2) ld_Int) ?_
  refine Rc (cl2 (en Tryz.func116) (Od.lc (Φ := IsI k1 z) 1 36) Od.con (fun x0 x1 w' hE d0 d1 => by { obtain rfl : x1 = .int .u32 8 := d1; exact (by have hh := low_f d0 8 (.inr rfl); rw [show (_ : Int) % ((8 : Nat) : Int) = _ from HR.out.1] at hh; exact hh) })) ?_
  refine Rc (ix (ia_sg r HR.out.2) (Od.glb 0) (Od.lc 2 37)) ?_
  refine Rc (ldG (fun w2 hE => (HSG.out.ext (S.ext.trans hE)) r HR.out.2) (Od.lc 3 38)) ?_
  refine Rc (bn (r := .int .i64 (sg8 r)) (Od.loc 0 35) (Od.loc 4 39) (hr := fun w => by have hx9 := HWS.out.1; have hx8 := HWS.out.2; go_simp)) ?_
  exact RgAll.nil
 intro v W8 e1 hΦ _
 replace S := S.mono e1
 have v5 : v 5 = .int .i64 (sg8 r) := hΦ 5 (by decide)
 simp only [layL, Act.put, uAx, u0x, u1x, Nat.reduceAdd]
 rw [v5]
 clear v5 hΦ e1
 refine wpList_step fun K hK => ?_; go_simp; refine hK _ _ ?_; clear hK K
 refine wpList_nil ?_
 go_upto_region 15 with (fail)
 refine rgs 3 [some 41, some 42, some 43] [IsI k1 z, IsI k2 (((m : Nat) : Int)), IsI k2 (((a0 : Nat) : Int))] [] ?_ ?_
 ·refine Rc (ldI S 1 (w.heap.size) 0 (Od.lit 2) ld_Int) ?_
  refine Rc (ldI S 0 (w.heap.size + 1) 0 (Od.lit 3) ld_Int) ?_
  refine Rc (cl2 (en Tryz.func117) (Od.lc (Φ := IsI k1 z) 0 41) (Od.lc (Φ := IsI k2 (((m : Nat) : Int))) 1 42) (fun x0 x1 w' hE d0 d1 => Calls.mono (mmod_f d0 d1 HK.out.1 HK.out.2 HM0.out) fun _ _ h => h.eqz HA0.out)) ?_
  exact RgAll.nil
 intro v W9 e1 hΦ _
 replace S := S.mono e1
 have h43 := hΦ 2 (by decide)
 simp only [layL, Act.put, uAx, u0x, u1x, Nat.reduceAdd]
 clear hΦ e1
 try simp only [List.drop_succ_cons, List.drop_zero]
 (with_reducible refine stL ?_ (by rfl)); intro KK hKK; refine stI S 1 (w.heap.size) 0 h43 st_Int (fun W10 S2 G2 => hKK _ _ ?_) rfl
 replace S := S2; clear S2 G2 hKK KK h43
 simp only [u0x, u1x] at S
 refine wpList_nil ?_
 go_wp2_with fail
 have S0 := hid S; clear S
 go_loopg [5] a0 (fun gk v5 wr => ∃ (a nn f : Nat) (kk : Int), v5 = .int .i64 kk ∧ a = gk ∧ a ≤ f ∧ nn % 2 = 1 ∧ nn ≤ 4611686018427387904 ∧ a ≤ 4611686018427387904 ∧ (-1 ≤ kk ∧ kk ≤ 1) ∧ krF f a nn kk = rr ∧ Hid (Sto w wr [((w.heap.size + 1, 0), IsI k2 (((nn : Nat) : Int))), ((w.heap.size, 0), IsI k2 (((a : Nat) : Int)))]))
 case atStart => exact ⟨a0, m, m, (sg8 r), rfl, rfl, HB0.out.1, HB0.out.2.1, HB0.out.2.2.1, HB0.out.2.2.2, HKR.out.1, HKR.out.2, S0⟩
 case round =>
  clear S0
  obtain ⟨a, nn, f, kk, rfl, hg, hf, hodd, hnb, hab, hkk, hr, S⟩ := hrel
  have S := S.out
  rcases Nat.eq_zero_or_pos a with ha | ha
  ·by_cases h1 : nn = 1
   ·subst ha
    have HONE := hid (show decide (((nn : Nat) : Int) = 1) = true from decide_eq_true (by omega))
    rw [krF_zero, if_pos h1] at hr
    have HRR := hid hr; clear hr hg hf hodd hnb hab hkk h1
    go_upto_region 16 with (fail)
    refine rgs 3 [some 44, some 45, some 46] [IsI k2 0, IsV (.int .i64 0), IsV (.bool false)] [] ?_ ?_
    ·refine Rc (ldI S 1 (w.heap.size) 0 (Od.lit 2) ld_Int) ?_
     refine Rc (cl1 (en Tryz.func84) (Od.lc (Φ := IsI k2 0) 0 44) (fun x0 w' hE d0 => Calls.mono (Sign_f d0) fun _ _ h => h.int (rfl))) ?_
     refine Rc (bn (r := .bool false) (Od.loc 1 45) Od.con (hr := fun w => by go_simp)) ?_
     exact RgAll.nil
    intro v W11 e1 hΦ _
    replace S := S.mono e1
    have v2 : v 2 = .bool false := hΦ 2 (by decide)
    simp only [layL, Act.put, uAx, u0x, u1x, Nat.reduceAdd]
    rw [v2]
    clear v2 hΦ e1
    refine wpList_nil ?_
    go_upto_region 23 with (fail)
    refine rgs 3 [some 75, some 76, some 77] [IsI k2 (((nn : Nat) : Int)), IsV (.bool true), IsV (.bool false)] [] ?_ ?_
    ·refine Rc (ldI S 0 (w.heap.size + 1) 0 (Od.lit 3) ld_Int) ?_
     refine Rc (cl1 (en Tryz.func112) (Od.lc (Φ := IsI k2 (((nn : Nat) : Int))) 0 75) (fun x0 w' hE d0 => mone_f d0 HK.out.2 HONE.out)) ?_
     refine Rc (nt (Od.loc 1 76)) ?_
     exact RgAll.nil
    intro v W12 e1 hΦ _
    replace S := S.mono e1
    have v2 : v 2 = .bool false := hΦ 2 (by decide)
    simp only [layL, Act.put, uAx, u0x, u1x, Nat.reduceAdd]
    rw [v2]
    clear v2 hΦ e1
    refine wpList_nil ?_
    go_upto_region 25 with (fail)
    refine rgs 2 [some 78, some 4] [IsV (.int .i64 kk), IsV (.int .i64 kk)] [] ?_ ?_
    ·refine Rc (mv (Od.lit 5)) ?_
     refine Rc (mv (Od.lc 0 78)) ?_
     exact RgAll.nil
    intro v W13 e1 hΦ _
    replace S := S.mono e1
    have v1 : v 1 = .int .i64 kk := hΦ 1 (by decide)
    simp only [layL, Act.put, uAx, u0x, u1x, Nat.reduceAdd]
    rw [v1]
    clear v1 hΦ e1
    refine wpList_nil ?_
    go_wp2_with fail
    exact bodyPost_ret (v := .int .i64 kk) (by simp [results, Tryz.results62, go_sem]) rfl (⟨_, rfl, S.ext, HRR.out ▸ rfl⟩)
   ·subst ha
    have HONE := hid (show decide (((nn : Nat) : Int) = 1) = false from decide_eq_false (by omega))
    rw [krF_zero, if_neg h1] at hr
    have HRR := hid hr; clear hr hg hf hodd hnb hab hkk h1
    go_upto_region 16 with (fail)
    refine rgs 3 [some 44, some 45, some 46] [IsI k2 0, IsV (.int .i64 0), IsV (.bool false)] [] ?_ ?_
    ·refine Rc (ldI S 1 (w.heap.size) 0 (Od.lit 2) ld_Int) ?_
     refine Rc (cl1 (en Tryz.func84) (Od.lc (Φ := IsI k2 0) 0 44) (fun x0 w' hE d0 => Calls.mono (Sign_f d0) fun _ _ h => h.int (rfl))) ?_
     refine Rc (bn (r := .bool false) (Od.loc 1 45) Od.con (hr := fun w => by go_simp)) ?_
     exact RgAll.nil
    intro v W14 e1 hΦ _
    replace S := S.mono e1
    have v2 : v 2 = .bool false := hΦ 2 (by decide)
    simp only [layL, Act.put, uAx, u0x, u1x, Nat.reduceAdd]
    rw [v2]
    clear v2 hΦ e1
    refine wpList_nil ?_
    go_upto_region 23 with (fail)
    refine rgs 3 [some 75, some 76, some 77] [IsI k2 (((nn : Nat) : Int)), IsV (.bool false), IsV (.bool true)] [] ?_ ?_
    ·refine Rc (ldI S 0 (w.heap.size + 1) 0 (Od.lit 3) ld_Int) ?_
     refine Rc (cl1 (en Tryz.func112) (Od.lc (Φ := IsI k2 (((nn : Nat) : Int))) 0 75) (fun x0 w' hE d0 => mone_f d0 HK.out.2 HONE.out)) ?_
     refine Rc (nt (Od.loc 1 76)) ?_
     exact RgAll.nil
    intro v W15 e1 hΦ _
    replace S := S.mono e1
    have v2 : v 2 = .bool true := hΦ 2 (by decide)
    simp only [layL, Act.put, uAx, u0x, u1x, Nat.reduceAdd]
    rw [v2]
    clear v2 hΦ e1
    refine wpList_nil ?_
    go_upto_region 24 with (fail)
    refine rgs 1 [some 4] [IsV (.int .i64 0)] [] ?_ ?_
    ·refine Rc (mv Od.con) ?_
     exact RgAll.nil
    intro v W16 e1 hΦ _
    replace S := S.mono e1
    have v0 : v 0 = .int .i64 0 := hΦ 0 (by decide)
    simp only [layL, Act.put, uAx, u0x, u1x]
    rw [v0]
    clear v0 hΦ e1
    refine wpList_nil ?_
    go_wp2_with fail
    exact bodyPost_ret (v := .int .i64 0) (by simp [results, Tryz.results62, go_sem]) rfl (⟨_, rfl, S.ext, HRR.out ▸ rfl⟩)
  ·obtain ⟨f, rfl⟩ : ∃ j, f = j + 1 := ⟨f - 1, by omega⟩
   obtain ⟨b, hb⟩ : ∃ b, (tws a).1 = b := ⟨_, rfl⟩
   obtain ⟨cc, hcc⟩ : ∃ c, (tws a).2 = c := ⟨_, rfl⟩
   have hts := tws_spec ha
   rw [hb, hcc] at hts
   have HTA := hid (And.intro hb hcc)
   have HAZ := hid (And.intro ha hab)
   have HSA := hid (show ((a : Nat) : Int).sign = 1 from Int.sign_eq_one_of_pos (by omega))
   obtain ⟨rb, hrb⟩ : ∃ r, b % 4 = r := ⟨_, rfl⟩
   obtain ⟨rn, hrn⟩ : ∃ r, nn % 4 = r := ⟨_, rfl⟩
   have HB4 := hid (show ((b : Nat) : Int) % ((4 : Nat) : Int) = ((rb : Nat) : Int) by omega)
   have HN4 := hid (show ((nn : Nat) : Int) % ((4 : Nat) : Int) = ((rn : Nat) : Int) by omega)
   obtain ⟨e3, he3⟩ : ∃ e, (rb == 3) = e := ⟨_, rfl⟩
   obtain ⟨f3, hf3⟩ : ∃ e, (rn == 3) = e := ⟨_, rfl⟩
   have HE3 := hid (show (((rb : Nat) : Int) == 3) = e3 ∧ (rb == 3) = e3 from ⟨by rw [← he3, Bool.eq_iff_iff, beq_iff_eq, beq_iff_eq]; omega, he3⟩)
   have HF3 := hid (show (((rn : Nat) : Int) == 3) = f3 ∧ (rn == 3) = f3 from ⟨by rw [← hf3, Bool.eq_iff_iff, beq_iff_eq, beq_iff_eq]; omega, hf3⟩)
   obtain ⟨na, hna⟩ : ∃ x, nn % b = x := ⟨_, rfl⟩
   have HBZ := hid (show ((b : Nat) : Int) ≠ 0 by omega)
   have HNM := hid (show ((nn : Nat) : Int) % ((b : Nat) : Int) = ((na : Nat) : Int) by rw [← hna]; rfl)
   have hlt : na < b := by rw [← hna]; exact Nat.mod_lt _ hts.2.1
   have HHN := hid (show na < gk ∧ na ≤ f ∧ b % 2 = 1 ∧ b ≤ 4611686018427387904 ∧ na ≤ 4611686018427387904 by omega)
   unfold krF at hr
   rw [if_neg (by omega), hb, hcc] at hr
   dsimp only at hr
   rcases Nat.mod_two_eq_zero_or_one cc with h2 | h2
   ·have HCC := hid (show ((cc : Nat) : Int) % 2 = 0 ∧ ((cc : Nat) : Int).tmod 2 = 0 by rw [Int.tmod_eq_emod_of_nonneg (by omega)]; omega)
    rw [if_neg (show ¬ (cc % 2 = 1) by omega), hna] at hr
    by_cases h3 : b % 4 = 3 ∧ nn % 4 = 3
    ·have HEF := hid (show (e3 && f3) = true by rw [← he3, ← hf3, Bool.and_eq_true, beq_iff_eq, beq_iff_eq]; omega)
     obtain ⟨kn, hkn⟩ : ∃ k, -kk = k := ⟨_, rfl⟩
     have HNG := hid (show IntKind.i64.wrap (-kk) = kn by rw [hkn]; simp only [IntKind.wrap_i64]; omega)
     have HHK := hid (show -1 ≤ kn ∧ kn ≤ 1 by omega)
     rw [if_pos h3, hkn] at hr
     have HHR := hid hr
     clear hr hg hf hodd hnb hab hkk ha hb hcc hts hrb hrn he3 hf3 hna hlt h2 h3 hkn
     go_upto_region 16 with (fail)
     refine rgs 3 [some 44, some 45, some 46] [IsI k2 (((a : Nat) : Int)), IsV (.int .i64 1), IsV (.bool true)] [] ?_ ?_
     ·refine Rc (ldI S 1 (w.heap.size) 0 (Od.lit 2) ld_Int) ?_
      refine Rc (cl1 (en Tryz.func84) (Od.lc (Φ := IsI k2 (((a : Nat) : Int))) 0 44) (fun x0 w' hE d0 => Calls.mono (Sign_f d0) fun _ _ h => h.int (HSA.out))) ?_
      refine Rc (bn (r := .bool true) (Od.loc 1 45) Od.con (hr := fun w => by go_simp)) ?_
      exact RgAll.nil
     intro v W17 e1 hΦ _
     replace S := S.mono e1
     have v2 : v 2 = .bool true := hΦ 2 (by decide)
     simp only [layL, Act.put, uAx, u0x, u1x, Nat.reduceAdd]
     rw [v2]
     clear v2 hΦ e1
     refine wpList_nil ?_
     go_upto_region 17 with (fail)
     refine rgs 5 [some 48, some 49, some 47, some 50, some 51] [IsI k2 (((a : Nat) : Int)), IsT2 (IsI k2 (((b : Nat) : Int))) (IsV (.int .i64 ((cc : Nat) : Int))), IsT2 (IsI k2 (((b : Nat) : Int))) (IsV (.int .i64 ((cc : Nat) : Int))), IsI k2 (((b : Nat) : Int)), IsV (.int .i64 ((cc : Nat) : Int))] [] ?_ ?_
     ·refine Rc (ldI S 1 (w.heap.size) 0 (Od.lit 2) ld_Int) ?_
      refine Rc (cl1 (en Tryz.func115) (Od.lc (Φ := IsI k2 (((a : Nat) : Int))) 0 48) (fun x0 w' hE d0 => (by have hh := twos_f d0 HK.out.2 HAZ.out; rw [HTA.out.1, HTA.out.2] at hh; exact hh))) ?_
      refine Rc (mv (Od.lc 1 49)) ?_
      refine Rc (ex (Od.loc 2 47) t20) ?_
      refine Rc (ex (Od.loc 2 47) t21) ?_
      exact RgAll.nil
     intro v W18 e1 hΦ _
     replace S := S.mono e1
     have h50 := hΦ 3 (by decide)
     have v4 : v 4 = .int .i64 ((cc : Nat) : Int) := hΦ 4 (by decide)
     simp only [layL, Act.put, uAx, u0x, u1x, Nat.reduceAdd]
     rw [v4]
     clear v4 hΦ e1
     try simp only [List.drop_succ_cons, List.drop_zero]
     (with_reducible refine stL ?_ (by rfl)); intro KK hKK; refine stI S 1 (w.heap.size) 0 h50 st_Int (fun W19 S2 G2 => hKK _ _ ?_) rfl
     replace S := S2; clear S2 G2 hKK KK h50
     simp only [u0x, u1x] at S
     refine wpList_step fun K hK => ?_; go_simp; refine hK _ _ ?_; clear hK K
     refine wpList_nil ?_
     go_upto_region 18 with (fail)
     refine rgs 3 [some 52, some 53, some 54] [IsV (.int .i64 ((cc : Nat) : Int)), IsV (.int .i64 0), IsV (.bool false)] [] ?_ ?_
     ·refine Rc (mv (Od.lit 6)) ?_
      refine Rc (bn (r := .int .i64 0) (Od.loc 0 52) Od.con (hr := fun w => by have hx9 := HCC.out.1; have hx8 := HCC.out.2; go_simp)) ?_
      refine Rc (bn (r := .bool false) (Od.loc 1 53) Od.con (hr := fun w => by go_simp)) ?_
      exact RgAll.nil
     intro v W20 e1 hΦ _
     replace S := S.mono e1
     have v2 : v 2 = .bool false := hΦ 2 (by decide)
     simp only [layL, Act.put, uAx, u0x, u1x, Nat.reduceAdd]
     rw [v2]
     clear v2 hΦ e1
     refine wpList_nil ?_
     go_upto_region 20 with (fail)
     refine rgs 8 [some 61, some 62, some 63, some 64, some 65, some 66, some 67, some 68] [IsI k2 (((b : Nat) : Int)), IsV (.int .u32 ((rb : Nat) : Int)), IsV (.bool e3), IsV (.bool e3), IsIf (e3) (IsI k2 (((nn : Nat) : Int))), IsIf (e3) (IsV (.int .u32 ((rn : Nat) : Int))), IsIf (e3) (IsV (.bool f3)), IsV (.bool true)] [] ?_ ?_ (hst := by repeat' (first | exact trivial | apply IsIf.stb | exact IsV.stb _ | exact IsI.stb _ _ | apply IsJ.stb | apply IsQ.stb | apply And.intro))
     ·refine Rc (ldI S 1 (w.heap.size) 0 (Od.lit 2) ld_Int) ?_
      refine Rc (cl2 (en Tryz.func116) (Od.lc (Φ := IsI k2 (((b : Nat) : Int))) 0 61) Od.con (fun x0 x1 w' hE d0 d1 => by { obtain rfl : x1 = .int .u32 4 := d1; exact (by have hh := low_f d0 4 (.inl rfl); rw [show (_ : Int) % ((4 : Nat) : Int) = _ from HB4.out] at hh; exact hh) })) ?_
      refine Rc (bn (r := .bool e3) (Od.loc 1 62) Od.con (hr := fun w => by have hx9 := HE3.out.1; have hx8 := HE3.out.2; go_simp)) ?_
      refine Rc (mv (Od.lc 2 63)) ?_
      refine RcB 3 64 e3 true (fun hb => by subst hb; exact ldI S 0 (w.heap.size + 1) 0 (Od.lit 3) ld_Int) ?_
      refine RcB 3 64 e3 true (fun hb => by subst hb; exact cl2 (en Tryz.func116) (Od.lc (Φ := IsI k2 (((nn : Nat) : Int))) 4 65) Od.con (fun x0 x1 w' hE d0 d1 => by { obtain rfl : x1 = .int .u32 4 := d1; exact (by have hh := low_f d0 4 (.inl rfl); rw [show (_ : Int) % ((4 : Nat) : Int) = _ from HN4.out] at hh; exact hh) })) ?_
      refine RcB 3 64 e3 true (fun hb => by subst hb; exact bn (r := .bool f3) (Od.loc 5 66) Od.con (hr := fun w => by have hx9 := HF3.out.1; have hx8 := HF3.out.2; go_simp)) ?_
      refine Rc (pkA (b2 := f3) (Od.loc 3 64) (fun hb => by subst hb; exact Od.lc 6 67) (HEF.out)) ?_
      exact RgAll.nil
     intro v W21 e1 hΦ _
     replace S := S.mono e1
     have v7 : v 7 = .bool true := hΦ 7 (by decide)
     simp only [layL, Act.put, uAx, u0x, u1x, Nat.reduceAdd]
     rw [v7]
     clear v7 hΦ e1
     refine wpList_nil ?_
     go_upto_region 21 with (fail)
     refine rgs 2 [some 69, some 70] [IsV (.int .i64 kk), IsV (.int .i64 kn)] [] ?_ ?_
     ·refine Rc (mv (Od.lit 5)) ?_
      refine Rc (un (r := .int .i64 kn) (Od.loc 0 69) (hr := fun w => by have hx9 := HNG.out; go_simp)) ?_
      exact RgAll.nil
     intro v W22 e1 hΦ _
     replace S := S.mono e1
     have v1 : v 1 = .int .i64 kn := hΦ 1 (by decide)
     simp only [layL, Act.put, uAx, u0x, u1x, Nat.reduceAdd]
     rw [v1]
     clear v1 hΦ e1
     refine wpList_step fun K hK => ?_; go_simp; refine hK _ _ ?_; clear hK K
     refine wpList_nil ?_
     go_upto_region 22 with (fail)
     refine rg 4 [some 71, some 72, some 73, some 74] [IsI k2 (((nn : Nat) : Int)), IsI k2 (((b : Nat) : Int)), IsI k2 (((na : Nat) : Int)), IsI k2 (((b : Nat) : Int))] [] 2 ?_ ?_
     ·refine Rc (ldI S 0 (w.heap.size + 1) 0 (Od.lit 3) ld_Int) ?_
      refine Rc (ldI S 1 (w.heap.size) 0 (Od.lit 2) ld_Int) ?_
      refine Rc (cl2 (en Tryz.func117) (Od.lc (Φ := IsI k2 (((nn : Nat) : Int))) 0 71) (Od.lc (Φ := IsI k2 (((b : Nat) : Int))) 1 72) (fun x0 x1 w' hE d0 d1 => Calls.mono (mmod_f d0 d1 HK.out.2 HK.out.2 HBZ.out) fun _ _ h => h.eqz HNM.out)) ?_
      refine Rc (ldI S 1 (w.heap.size) 0 (Od.lit 2) ld_Int) ?_
      exact RgAll.nil
     intro v W23 e1 hΦ _
     replace S := S.mono e1
     have h73 := hΦ 2 (by decide)
     have h74 := hΦ 3 (by decide)
     simp only [layL, Act.put, uAx, u0x, u1x, Nat.reduceAdd]
     clear hΦ e1
     refine stA 4 (h := fun KK hKK => stI S 1 (w.heap.size) 0 h73 st_Int (fun W24 S2 G2 => hKK _ _ ?_) rfl)
     replace h74 := (IsI.gstb _ _) _ _ _ G2 h74
     replace S := S2; clear S2 G2 hKK KK h73
     simp only [u0x, u1x] at S
     refine stA 5 (h := fun KK hKK => stI S 0 (w.heap.size + 1) 0 h74 st_Int (fun W25 S2 G2 => hKK _ _ ?_) rfl)
     replace S := S2; clear S2 G2 hKK KK h74
     simp only [u0x] at S
     refine wpAny_done (by kernel_rfl) ?_ _
     have S' := hid S; clear S
     go_wp2_with fail
     go_roundg na
     case measure => have := HHN.out; omega
     case rel => exact ⟨na, b, f, kn, rfl, rfl, by have := HHN.out; omega, HHN.out.2.2.1, by have := HHN.out; omega, by have := HHN.out; omega, HHK.out, HHR.out, S'⟩
    ·have HEF := hid (show (e3 && f3) = false by rw [← he3, ← hf3, Bool.eq_false_iff]; intro k; rw [Bool.and_eq_true, beq_iff_eq, beq_iff_eq] at k; exact h3 (by omega))
     have HHK := hid hkk
     rw [if_neg h3] at hr
     have HHR := hid hr
     clear hr hg hf hodd hnb hab hkk ha hb hcc hts hrb hrn he3 hf3 hna hlt h2 h3
     go_upto_region 16 with (fail)
     refine rgs 3 [some 44, some 45, some 46] [IsI k2 (((a : Nat) : Int)), IsV (.int .i64 1), IsV (.bool true)] [] ?_ ?_
     ·refine Rc (ldI S 1 (w.heap.size) 0 (Od.lit 2) ld_Int) ?_
      refine Rc (cl1 (en Tryz.func84) (Od.lc (Φ := IsI k2 (((a : Nat) : Int))) 0 44) (fun x0 w' hE d0 => Calls.mono (Sign_f d0) fun _ _ h => h.int (HSA.out))) ?_
      refine Rc (bn (r := .bool true) (Od.loc 1 45) Od.con (hr := fun w => by go_simp)) ?_
      exact RgAll.nil
     intro v W26 e1 hΦ _
     replace S := S.mono e1
     have v2 : v 2 = .bool true := hΦ 2 (by decide)
     simp only [layL, Act.put, uAx, u0x, u1x, Nat.reduceAdd]
     rw [v2]
     clear v2 hΦ e1
     refine wpList_nil ?_
     go_upto_region 17 with (fail)
     refine rgs 5 [some 48, some 49, some 47, some 50, some 51] [IsI k2 (((a : Nat) : Int)), IsT2 (IsI k2 (((b : Nat) : Int))) (IsV (.int .i64 ((cc : Nat) : Int))), IsT2 (IsI k2 (((b : Nat) : Int))) (IsV (.int .i64 ((cc : Nat) : Int))), IsI k2 (((b : Nat) : Int)), IsV (.int .i64 ((cc : Nat) : Int))] [] ?_ ?_
     ·refine Rc (ldI S 1 (w.heap.size) 0 (Od.lit 2) ld_Int) ?_
      refine Rc (cl1 (en Tryz.func115) (Od.lc (Φ := IsI k2 (((a : Nat) : Int))) 0 48) (fun x0 w' hE d0 => (by have hh := twos_f d0 HK.out.2 HAZ.out; rw [HTA.out.1, HTA.out.2] at hh; exact hh))) ?_
      refine Rc (mv (Od.lc 1 49)) ?_
      refine Rc (ex (Od.loc 2 47) t20) ?_
      refine Rc (ex (Od.loc 2 47) t21) ?_
      exact RgAll.nil
     intro v W27 e1 hΦ _
     replace S := S.mono e1
     have h50 := hΦ 3 (by decide)
     have v4 : v 4 = .int .i64 ((cc : Nat) : Int) := hΦ 4 (by decide)
     simp only [layL, Act.put, uAx, u0x, u1x, Nat.reduceAdd]
     rw [v4]
     clear v4 hΦ e1
     try simp only [List.drop_succ_cons, List.drop_zero]
     (with_reducible refine stL ?_ (by rfl)); intro KK hKK; refine stI S 1 (w.heap.size) 0 h50 st_Int (fun W28 S2 G2 => hKK _ _ ?_) rfl
     replace S := S2; clear S2 G2 hKK KK h50
     simp only [u0x, u1x] at S
     refine wpList_step fun K hK => ?_; go_simp; refine hK _ _ ?_; clear hK K
     refine wpList_nil ?_
     go_upto_region 18 with (fail)
     refine rgs 3 [some 52, some 53, some 54] [IsV (.int .i64 ((cc : Nat) : Int)), IsV (.int .i64 0), IsV (.bool false)] [] ?_ ?_
     ·refine Rc (mv (Od.lit 6)) ?_
      refine Rc (bn (r := .int .i64 0) (Od.loc 0 52) Od.con (hr := fun w => by have hx9 := HCC.out.1; have hx8 := HCC.out.2; go_simp)) ?_
      refine Rc (bn (r := .bool false) (Od.loc 1 53) Od.con (hr := fun w => by go_simp)) ?_
      exact RgAll.nil
     intro v W29 e1 hΦ _
     replace S := S.mono e1
     have v2 : v 2 = .bool false := hΦ 2 (by decide)
     simp only [layL, Act.put, uAx, u0x, u1x, Nat.reduceAdd]
     rw [v2]
     clear v2 hΦ e1
     refine wpList_nil ?_
     go_upto_region 20 with (fail)
     refine rgs 8 [some 61, some 62, some 63, some 64, some 65, some 66, some 67, some 68] [IsI k2 (((b : Nat) : Int)), IsV (.int .u32 ((rb : Nat) : Int)), IsV (.bool e3), IsV (.bool e3), IsIf (e3) (IsI k2 (((nn : Nat) : Int))), IsIf (e3) (IsV (.int .u32 ((rn : Nat) : Int))), IsIf (e3) (IsV (.bool f3)), IsV (.bool false)] [] ?_ ?_ (hst := by repeat' (first | exact trivial | apply IsIf.stb | exact IsV.stb _ | exact IsI.stb _ _ | apply IsJ.stb | apply IsQ.stb | apply And.intro))
     ·refine Rc (ldI S 1 (w.heap.size) 0 (Od.lit 2) ld_Int) ?_
      refine Rc (cl2 (en Tryz.func116) (Od.lc (Φ := IsI k2 (((b : Nat) : Int))) 0 61) Od.con (fun x0 x1 w' hE d0 d1 => by { obtain rfl : x1 = .int .u32 4 := d1; exact (by have hh := low_f d0 4 (.inl rfl); rw [show (_ : Int) % ((4 : Nat) : Int) = _ from HB4.out] at hh; exact hh) })) ?_
      refine Rc (bn (r := .bool e3) (Od.loc 1 62) Od.con (hr := fun w => by have hx9 := HE3.out.1; have hx8 := HE3.out.2; go_simp)) ?_
      refine Rc (mv (Od.lc 2 63)) ?_
      refine RcB 3 64 e3 true (fun hb => by subst hb; exact ldI S 0 (w.heap.size + 1) 0 (Od.lit 3) ld_Int) ?_
      refine RcB 3 64 e3 true (fun hb => by subst hb; exact cl2 (en Tryz.func116) (Od.lc (Φ := IsI k2 (((nn : Nat) : Int))) 4 65) Od.con (fun x0 x1 w' hE d0 d1 => by { obtain rfl : x1 = .int .u32 4 := d1; exact (by have hh := low_f d0 4 (.inl rfl); rw [show (_ : Int) % ((4 : Nat) : Int) = _ from HN4.out] at hh; exact hh) })) ?_
      refine RcB 3 64 e3 true (fun hb => by subst hb; exact bn (r := .bool f3) (Od.loc 5 66) Od.con (hr := fun w => by have hx9 := HF3.out.1; have hx8 := HF3.out.2; go_simp)) ?_
      refine Rc (pkA (b2 := f3) (Od.loc 3 64) (fun hb => by subst hb; exact Od.lc 6 67) (HEF.out)) ?_
      exact RgAll.nil
     intro v W30 e1 hΦ _
     replace S := S.mono e1
     have v7 : v 7 = .bool false := hΦ 7 (by decide)
     simp only [layL, Act.put, uAx, u0x, u1x, Nat.reduceAdd]
     rw [v7]
     clear v7 hΦ e1
     refine wpList_nil ?_
     go_upto_region 22 with (fail)
     refine rg 4 [some 71, some 72, some 73, some 74] [IsI k2 (((nn : Nat) : Int)), IsI k2 (((b : Nat) : Int)), IsI k2 (((na : Nat) : Int)), IsI k2 (((b : Nat) : Int))] [] 2 ?_ ?_
     ·refine Rc (ldI S 0 (w.heap.size + 1) 0 (Od.lit 3) ld_Int) ?_
      refine Rc (ldI S 1 (w.heap.size) 0 (Od.lit 2) ld_Int) ?_
      refine Rc (cl2 (en Tryz.func117) (Od.lc (Φ := IsI k2 (((nn : Nat) : Int))) 0 71) (Od.lc (Φ := IsI k2 (((b : Nat) : Int))) 1 72) (fun x0 x1 w' hE d0 d1 => Calls.mono (mmod_f d0 d1 HK.out.2 HK.out.2 HBZ.out) fun _ _ h => h.eqz HNM.out)) ?_
      refine Rc (ldI S 1 (w.heap.size) 0 (Od.lit 2) ld_Int) ?_
      exact RgAll.nil
     intro v W31 e1 hΦ _
     replace S := S.mono e1
     have h73 := hΦ 2 (by decide)
     have h74 := hΦ 3 (by decide)
     simp only [layL, Act.put, uAx, u0x, u1x, Nat.reduceAdd]
     clear hΦ e1
     refine stA 4 (h := fun KK hKK => stI S 1 (w.heap.size) 0 h73 st_Int (fun W32 S2 G2 => hKK _ _ ?_) rfl)
     replace h74 := (IsI.gstb _ _) _ _ _ G2 h74
     replace S := S2; clear S2 G2 hKK KK h73
     simp only [u0x, u1x] at S
     refine stA 5 (h := fun KK hKK => stI S 0 (w.heap.size + 1) 0 h74 st_Int (fun W33 S2 G2 => hKK _ _ ?_) rfl)
     replace S := S2; clear S2 G2 hKK KK h74
     simp only [u0x] at S
     refine wpAny_done (by kernel_rfl) ?_ _
     have S' := hid S; clear S
     go_wp2_with fail
     go_roundg na
     case measure => have := HHN.out; omega
     case rel => exact ⟨na, b, f, kk, rfl, rfl, by have := HHN.out; omega, HHN.out.2.2.1, by have := HHN.out; omega, by have := HHN.out; omega, HHK.out, HHR.out, S'⟩
   ·obtain ⟨r, hr8⟩ : ∃ r, nn % 8 = r := ⟨_, rfl⟩
    have HR8 := hid (show ((nn : Nat) : Int) % ((8 : Nat) : Int) = ((r : Nat) : Int) ∧ r < 8 by omega)
    have HCC := hid (show ((cc : Nat) : Int) % 2 = 1 ∧ ((cc : Nat) : Int).tmod 2 = 1 by rw [Int.tmod_eq_emod_of_nonneg (by omega)]; omega)
    obtain ⟨kq, hkq⟩ : ∃ k, kk * sg8 r = k := ⟨_, rfl⟩
    have hkq2 : -1 ≤ kq ∧ kq ≤ 1 := by rw [← hkq]; exact mul_sg kk r hkk
    have HKQ := hid (show IntKind.i64.wrap (kk * sg8 r) = kq by rw [hkq]; simp only [IntKind.wrap_i64]; omega)
    rw [if_pos h2, hr8, hkq, hna] at hr
    by_cases h3 : b % 4 = 3 ∧ nn % 4 = 3
    ·have HEF := hid (show (e3 && f3) = true by rw [← he3, ← hf3, Bool.and_eq_true, beq_iff_eq, beq_iff_eq]; omega)
     obtain ⟨kn, hkn⟩ : ∃ k, -kq = k := ⟨_, rfl⟩
     have HNG := hid (show IntKind.i64.wrap (-kq) = kn by rw [hkn]; simp only [IntKind.wrap_i64]; omega)
     have HHK := hid (show -1 ≤ kn ∧ kn ≤ 1 by omega)
     rw [if_pos h3, hkn] at hr
     have HHR := hid hr
     clear hr hg hf hodd hnb hab hkk ha hb hcc hts hrb hrn he3 hf3 hna hlt h2 h3 hkn hr8 hkq hkq2
     go_upto_region 16 with (fail)
     refine rgs 3 [some 44, some 45, some 46] [IsI k2 (((a : Nat) : Int)), IsV (.int .i64 1), IsV (.bool true)] [] ?_ ?_
     ·refine Rc (ldI S 1 (w.heap.size) 0 (Od.lit 2) ld_Int) ?_
      refine Rc (cl1 (en Tryz.func84) (Od.lc (Φ := IsI k2 (((a : Nat) : Int))) 0 44) (fun x0 w' hE d0 => Calls.mono (Sign_f d0) fun _ _ h => h.int (HSA.out))) ?_
      refine Rc (bn (r := .bool true) (Od.loc 1 45) Od.con (hr := fun w => by go_simp)) ?_
      exact RgAll.nil
     intro v W34 e1 hΦ _
     replace S := S.mono e1
     have v2 : v 2 = .bool true := hΦ 2 (by decide)
     simp only [layL, Act.put, uAx, u0x, u1x, Nat.reduceAdd]
     rw [v2]
     clear v2 hΦ e1
     refine wpList_nil ?_
     go_upto_region 17 with (fail)
     refine rgs 5 [some 48, some 49, some 47, some 50, some 51] [IsI k2 (((a : Nat) : Int)), IsT2 (IsI k2 (((b : Nat) : Int))) (IsV (.int .i64 ((cc : Nat) : Int))), IsT2 (IsI k2 (((b : Nat) : Int))) (IsV (.int .i64 ((cc : Nat) : Int))), IsI k2 (((b : Nat) : Int)), IsV (.int .i64 ((cc : Nat) : Int))] [] ?_ ?_
     ·refine Rc (ldI S 1 (w.heap.size) 0 (Od.lit 2) ld_Int) ?_
      refine Rc (cl1 (en Tryz.func115) (Od.lc (Φ := IsI k2 (((a : Nat) : Int))) 0 48) (fun x0 w' hE d0 => (by have hh := twos_f d0 HK.out.2 HAZ.out; rw [HTA.out.1, HTA.out.2] at hh; exact hh))) ?_
      refine Rc (mv (Od.lc 1 49)) ?_
      refine Rc (ex (Od.loc 2 47) t20) ?_
      refine Rc (ex (Od.loc 2 47) t21) ?_
      exact RgAll.nil
     intro v W35 e1 hΦ _
     replace S := S.mono e1
     have h50 := hΦ 3 (by decide)
     have v4 : v 4 = .int .i64 ((cc : Nat) : Int) := hΦ 4 (by decide)
     simp only [layL, Act.put, uAx, u0x, u1x, Nat.reduceAdd]
     rw [v4]
     clear v4 hΦ e1
     try simp only [List.drop_succ_cons, List.drop_zero]
     (with_reducible refine stL ?_ (by rfl)); intro KK hKK; refine stI S 1 (w.heap.size) 0 h50 st_Int (fun W36 S2 G2 => hKK _ _ ?_) rfl
     replace S := S2; clear S2 G2 hKK KK h50
     simp only [u0x, u1x] at S
     refine wpList_step fun K hK => ?_; go_simp; refine hK _ _ ?_; clear hK K
     refine wpList_nil ?_
     go_upto_region 18 with (fail)
     refine rgs 3 [some 52, some 53, some 54] [IsV (.int .i64 ((cc : Nat) : Int)), IsV (.int .i64 1), IsV (.bool true)] [] ?_ ?_
     ·refine Rc (mv (Od.lit 6)) ?_
      refine Rc (bn (r := .int .i64 1) (Od.loc 0 52) Od.con (hr := fun w => by have hx9 := HCC.out.1; have hx8 := HCC.out.2; go_simp)) ?_
      refine Rc (bn (r := .bool true) (Od.loc 1 53) Od.con (hr := fun w => by go_simp)) ?_
      exact RgAll.nil
     intro v W37 e1 hΦ _
     replace S := S.mono e1
     have v2 : v 2 = .bool true := hΦ 2 (by decide)
     simp only [layL, Act.put, uAx, u0x, u1x, Nat.reduceAdd]
     rw [v2]
     clear v2 hΦ e1
     refine wpList_nil ?_
     go_upto_region 19 with (fail)
     refine rgs 6 [some 55, some 56, some 57, some 58, some 59, some 60] [IsV (.int .i64 kk), IsI k2 (((nn : Nat) : Int)), IsV (.int .u32 ((r : Nat) : Int)), IsV (.pointer (some ⟨0, r, none⟩)), IsV (.int .i64 (sg8 r)), IsV (.int .i64 kq)] [] ?_ ?_
     ·refine Rc (mv (Od.lit 5)) ?_
      refine Rc (ldI S 0 (w.heap.size + 1) 0 (Od.lit 3) ld_Int) ?_
      refine Rc (cl2 (en Tryz.func116) (Od.lc (Φ := IsI k2 (((nn : Nat) : Int))) 1 56) Od.con (fun x0 x1 w' hE d0 d1 => by { obtain rfl : x1 = .int .u32 8 := d1; exact (by have hh := low_f d0 8 (.inr rfl); rw [show (_ : Int) % ((8 : Nat) : Int) = _ from HR8.out.1] at hh; exact hh) })) ?_
      refine Rc (ix (ia_sg r HR8.out.2) (Od.glb 0) (Od.lc 2 57)) ?_
      refine Rc (ldG (fun w2 hE => (HSG.out.ext (S.ext.trans hE)) r HR8.out.2) (Od.lc 3 58)) ?_
      refine Rc (bn (r := .int .i64 kq) (Od.loc 0 55) (Od.loc 4 59) (hr := fun w => by have hx9 := HKQ.out; go_simp)) ?_
      exact RgAll.nil
     intro v W38 e1 hΦ _
     replace S := S.mono e1
     have v5 : v 5 = .int .i64 kq := hΦ 5 (by decide)
     simp only [layL, Act.put, uAx, u0x, u1x, Nat.reduceAdd]
     rw [v5]
     clear v5 hΦ e1
     refine wpList_step fun K hK => ?_; go_simp; refine hK _ _ ?_; clear hK K
     refine wpList_nil ?_
     go_upto_region 20 with (fail)
     refine rgs 8 [some 61, some 62, some 63, some 64, some 65, some 66, some 67, some 68] [IsI k2 (((b : Nat) : Int)), IsV (.int .u32 ((rb : Nat) : Int)), IsV (.bool e3), IsV (.bool e3), IsIf (e3) (IsI k2 (((nn : Nat) : Int))), IsIf (e3) (IsV (.int .u32 ((rn : Nat) : Int))), IsIf (e3) (IsV (.bool f3)), IsV (.bool true)] [] ?_ ?_ (hst := by repeat' (first | exact trivial | apply IsIf.stb | exact IsV.stb _ | exact IsI.stb _ _ | apply IsJ.stb | apply IsQ.stb | apply And.intro))
     ·refine Rc (ldI S 1 (w.heap.size) 0 (Od.lit 2) ld_Int) ?_
      refine Rc (cl2 (en Tryz.func116) (Od.lc (Φ := IsI k2 (((b : Nat) : Int))) 0 61) Od.con (fun x0 x1 w' hE d0 d1 => by { obtain rfl : x1 = .int .u32 4 := d1; exact (by have hh := low_f d0 4 (.inl rfl); rw [show (_ : Int) % ((4 : Nat) : Int) = _ from HB4.out] at hh; exact hh) })) ?_
      refine Rc (bn (r := .bool e3) (Od.loc 1 62) Od.con (hr := fun w => by have hx9 := HE3.out.1; have hx8 := HE3.out.2; go_simp)) ?_
      refine Rc (mv (Od.lc 2 63)) ?_
      refine RcB 3 64 e3 true (fun hb => by subst hb; exact ldI S 0 (w.heap.size + 1) 0 (Od.lit 3) ld_Int) ?_
      refine RcB 3 64 e3 true (fun hb => by subst hb; exact cl2 (en Tryz.func116) (Od.lc (Φ := IsI k2 (((nn : Nat) : Int))) 4 65) Od.con (fun x0 x1 w' hE d0 d1 => by { obtain rfl : x1 = .int .u32 4 := d1; exact (by have hh := low_f d0 4 (.inl rfl); rw [show (_ : Int) % ((4 : Nat) : Int) = _ from HN4.out] at hh; exact hh) })) ?_
      refine RcB 3 64 e3 true (fun hb => by subst hb; exact bn (r := .bool f3) (Od.loc 5 66) Od.con (hr := fun w => by have hx9 := HF3.out.1; have hx8 := HF3.out.2; go_simp)) ?_
      refine Rc (pkA (b2 := f3) (Od.loc 3 64) (fun hb => by subst hb; exact Od.lc 6 67) (HEF.out)) ?_
      exact RgAll.nil
     intro v W39 e1 hΦ _
     replace S := S.mono e1
     have v7 : v 7 = .bool true := hΦ 7 (by decide)
     simp only [layL, Act.put, uAx, u0x, u1x, Nat.reduceAdd]
     rw [v7]
     clear v7 hΦ e1
     refine wpList_nil ?_
     go_upto_region 21 with (fail)
     refine rgs 2 [some 69, some 70] [IsV (.int .i64 kq), IsV (.int .i64 kn)] [] ?_ ?_
     ·refine Rc (mv (Od.lit 5)) ?_
      refine Rc (un (r := .int .i64 kn) (Od.loc 0 69) (hr := fun w => by have hx9 := HNG.out; go_simp)) ?_
      exact RgAll.nil
     intro v W40 e1 hΦ _
     replace S := S.mono e1
     have v1 : v 1 = .int .i64 kn := hΦ 1 (by decide)
     simp only [layL, Act.put, uAx, u0x, u1x, Nat.reduceAdd]
     rw [v1]
     clear v1 hΦ e1
     refine wpList_step fun K hK => ?_; go_simp; refine hK _ _ ?_; clear hK K
     refine wpList_nil ?_
     go_upto_region 22 with (fail)
     refine rg 4 [some 71, some 72, some 73, some 74] [IsI k2 (((nn : Nat) : Int)), IsI k2 (((b : Nat) : Int)), IsI k2 (((na : Nat) : Int)), IsI k2 (((b : Nat) : Int))] [] 2 ?_ ?_
     ·refine Rc (ldI S 0 (w.heap.size + 1) 0 (Od.lit 3) ld_Int) ?_
      refine Rc (ldI S 1 (w.heap.size) 0 (Od.lit 2) ld_Int) ?_
      refine Rc (cl2 (en Tryz.func117) (Od.lc (Φ := IsI k2 (((nn : Nat) : Int))) 0 71) (Od.lc (Φ := IsI k2 (((b : Nat) : Int))) 1 72) (fun x0 x1 w' hE d0 d1 => Calls.mono (mmod_f d0 d1 HK.out.2 HK.out.2 HBZ.out) fun _ _ h => h.eqz HNM.out)) ?_
      refine Rc (ldI S 1 (w.heap.size) 0 (Od.lit 2) ld_Int) ?_
      exact RgAll.nil
     intro v W41 e1 hΦ _
     replace S := S.mono e1
     have h73 := hΦ 2 (by decide)
     have h74 := hΦ 3 (by decide)
     simp only [layL, Act.put, uAx, u0x, u1x, Nat.reduceAdd]
     clear hΦ e1
     refine stA 4 (h := fun KK hKK => stI S 1 (w.heap.size) 0 h73 st_Int (fun W42 S2 G2 => hKK _ _ ?_) rfl)
     replace h74 := (IsI.gstb _ _) _ _ _ G2 h74
     replace S := S2; clear S2 G2 hKK KK h73
     simp only [u0x, u1x] at S
     refine stA 5 (h := fun KK hKK => stI S 0 (w.heap.size + 1) 0 h74 st_Int (fun W43 S2 G2 => hKK _ _ ?_) rfl)
     replace S := S2; clear S2 G2 hKK KK h74
     simp only [u0x] at S
     refine wpAny_done (by kernel_rfl) ?_ _
     have S' := hid S; clear S
     go_wp2_with fail
     go_roundg na
     case measure => have := HHN.out; omega
     case rel => exact ⟨na, b, f, kn, rfl, rfl, by have := HHN.out; omega, HHN.out.2.2.1, by have := HHN.out; omega, by have := HHN.out; omega, HHK.out, HHR.out, S'⟩
    ·have HEF := hid (show (e3 && f3) = false by rw [← he3, ← hf3, Bool.eq_false_iff]; intro k; rw [Bool.and_eq_true, beq_iff_eq, beq_iff_eq] at k; exact h3 (by omega))
     have HHK := hid hkq2
     rw [if_neg h3] at hr
     have HHR := hid hr
     clear hr hg hf hodd hnb hab hkk ha hb hcc hts hrb hrn he3 hf3 hna hlt h2 h3 hr8 hkq hkq2
     go_upto_region 16 with (fail)
     refine rgs 3 [some 44, some 45, some 46] [IsI k2 (((a : Nat) : Int)), IsV (.int .i64 1), IsV (.bool true)] [] ?_ ?_
     ·refine Rc (ldI S 1 (w.heap.size) 0 (Od.lit 2) ld_Int) ?_
      refine Rc (cl1 (en Tryz.func84) (Od.lc (Φ := IsI k2 (((a : Nat) : Int))) 0 44) (fun x0 w' hE d0 => Calls.mono (Sign_f d0) fun _ _ h => h.int (HSA.out))) ?_
      refine Rc (bn (r := .bool true) (Od.loc 1 45) Od.con (hr := fun w => by go_simp)) ?_
      exact RgAll.nil
     intro v W44 e1 hΦ _
     replace S := S.mono e1
     have v2 : v 2 = .bool true := hΦ 2 (by decide)
     simp only [layL, Act.put, uAx, u0x, u1x, Nat.reduceAdd]
     rw [v2]
     clear v2 hΦ e1
     refine wpList_nil ?_
     go_upto_region 17 with (fail)
     refine rgs 5 [some 48, some 49, some 47, some 50, some 51] [IsI k2 (((a : Nat) : Int)), IsT2 (IsI k2 (((b : Nat) : Int))) (IsV (.int .i64 ((cc : Nat) : Int))), IsT2 (IsI k2 (((b : Nat) : Int))) (IsV (.int .i64 ((cc : Nat) : Int))), IsI k2 (((b : Nat) : Int)), IsV (.int .i64 ((cc : Nat) : Int))] [] ?_ ?_
     ·refine Rc (ldI S 1 (w.heap.size) 0 (Od.lit 2) ld_Int) ?_
      refine Rc (cl1 (en Tryz.func115) (Od.lc (Φ := IsI k2 (((a : Nat) : Int))) 0 48) (fun x0 w' hE d0 => (by have hh := twos_f d0 HK.out.2 HAZ.out; rw [HTA.out.1, HTA.out.2] at hh; exact hh))) ?_
      refine Rc (mv (Od.lc 1 49)) ?_
      refine Rc (ex (Od.loc 2 47) t20) ?_
      refine Rc (ex (Od.loc 2 47) t21) ?_
      exact RgAll.nil
     intro v W45 e1 hΦ _
     replace S := S.mono e1
     have h50 := hΦ 3 (by decide)
     have v4 : v 4 = .int .i64 ((cc : Nat) : Int) := hΦ 4 (by decide)
     simp only [layL, Act.put, uAx, u0x, u1x, Nat.reduceAdd]
     rw [v4]
     clear v4 hΦ e1
     try simp only [List.drop_succ_cons, List.drop_zero]
     (with_reducible refine stL ?_ (by rfl)); intro KK hKK; refine stI S 1 (w.heap.size) 0 h50 st_Int (fun W46 S2 G2 => hKK _ _ ?_) rfl
     replace S := S2; clear S2 G2 hKK KK h50
     simp only [u0x, u1x] at S
     refine wpList_step fun K hK => ?_; go_simp; refine hK _ _ ?_; clear hK K
     refine wpList_nil ?_
     go_upto_region 18 with (fail)
     refine rgs 3 [some 52, some 53, some 54] [IsV (.int .i64 ((cc : Nat) : Int)), IsV (.int .i64 1), IsV (.bool true)] [] ?_ ?_
     ·refine Rc (mv (Od.lit 6)) ?_
      refine Rc (bn (r := .int .i64 1) (Od.loc 0 52) Od.con (hr := fun w => by have hx9 := HCC.out.1; have hx8 := HCC.out.2; go_simp)) ?_
      refine Rc (bn (r := .bool true) (Od.loc 1 53) Od.con (hr := fun w => by go_simp)) ?_
      exact RgAll.nil
     intro v W47 e1 hΦ _
     replace S := S.mono e1
     have v2 : v 2 = .bool true := hΦ 2 (by decide)
     simp only [layL, Act.put, uAx, u0x, u1x, Nat.reduceAdd]
     rw [v2]
     clear v2 hΦ e1
     refine wpList_nil ?_
     go_upto_region 19 with (fail)
     refine rgs 6 [some 55, some 56, some 57, some 58, some 59, some 60] [IsV (.int .i64 kk), IsI k2 (((nn : Nat) : Int)), IsV (.int .u32 ((r : Nat) : Int)), IsV (.pointer (some ⟨0, r, none⟩)), IsV (.int .i64 (sg8 r)), IsV (.int .i64 kq)] [] ?_ ?_
     ·refine Rc (mv (Od.lit 5)) ?_
      refine Rc (ldI S 0 (w.heap.size + 1) 0 (Od.lit 3) ld_Int) ?_
      refine Rc (cl2 (en Tryz.func116) (Od.lc (Φ := IsI k2 (((nn : Nat) : Int))) 1 56) Od.con (fun x0 x1 w' hE d0 d1 => by { obtain rfl : x1 = .int .u32 8 := d1; exact (by have hh := low_f d0 8 (.inr rfl); rw [show (_ : Int) % ((8 : Nat) : Int) = _ from HR8.out.1] at hh; exact hh) })) ?_
      refine Rc (ix (ia_sg r HR8.out.2) (Od.glb 0) (Od.lc 2 57)) ?_
      refine Rc (ldG (fun w2 hE => (HSG.out.ext (S.ext.trans hE)) r HR8.out.2) (Od.lc 3 58)) ?_
      refine Rc (bn (r := .int .i64 kq) (Od.loc 0 55) (Od.loc 4 59) (hr := fun w => by have hx9 := HKQ.out; go_simp)) ?_
      exact RgAll.nil
     intro v W48 e1 hΦ _
     replace S := S.mono e1
     have v5 : v 5 = .int .i64 kq := hΦ 5 (by decide)
     simp only [layL, Act.put, uAx, u0x, u1x, Nat.reduceAdd]
     rw [v5]
     clear v5 hΦ e1
     refine wpList_step fun K hK => ?_; go_simp; refine hK _ _ ?_; clear hK K
     refine wpList_nil ?_
     go_upto_region 20 with (fail)
     refine rgs 8 [some 61, some 62, some 63, some 64, some 65, some 66, some 67, some 68] [IsI k2 (((b : Nat) : Int)), IsV (.int .u32 ((rb : Nat) : Int)), IsV (.bool e3), IsV (.bool e3), IsIf (e3) (IsI k2 (((nn : Nat) : Int))), IsIf (e3) (IsV (.int .u32 ((rn : Nat) : Int))), IsIf (e3) (IsV (.bool f3)), IsV (.bool false)] [] ?_ ?_ (hst := by repeat' (first | exact trivial | apply IsIf.stb | exact IsV.stb _ | exact IsI.stb _ _ | apply IsJ.stb | apply IsQ.stb | apply And.intro))
     ·refine Rc (ldI S 1 (w.heap.size) 0 (Od.lit 2) ld_Int) ?_
      refine Rc (cl2 (en Tryz.func116) (Od.lc (Φ := IsI k2 (((b : Nat) : Int))) 0 61) Od.con (fun x0 x1 w' hE d0 d1 => by { obtain rfl : x1 = .int .u32 4 := d1; exact (by have hh := low_f d0 4 (.inl rfl); rw [show (_ : Int) % ((4 : Nat) : Int) = _ from HB4.out] at hh; exact hh) })) ?_
      refine Rc (bn (r := .bool e3) (Od.loc 1 62) Od.con (hr := fun w => by have hx9 := HE3.out.1; have hx8 := HE3.out.2; go_simp)) ?_
      refine Rc (mv (Od.lc 2 63)) ?_
      refine RcB 3 64 e3 true (fun hb => by subst hb; exact ldI S 0 (w.heap.size + 1) 0 (Od.lit 3) ld_Int) ?_
      refine RcB 3 64 e3 true (fun hb => by subst hb; exact cl2 (en Tryz.func116) (Od.lc (Φ := IsI k2 (((nn : Nat) : Int))) 4 65) Od.con (fun x0 x1 w' hE d0 d1 => by { obtain rfl : x1 = .int .u32 4 := d1; exact (by have hh := low_f d0 4 (.inl rfl); rw [show (_ : Int) % ((4 : Nat) : Int) = _ from HN4.out] at hh; exact hh) })) ?_
      refine RcB 3 64 e3 true (fun hb => by subst hb; exact bn (r := .bool f3) (Od.loc 5 66) Od.con (hr := fun w => by have hx9 := HF3.out.1; have hx8 := HF3.out.2; go_simp)) ?_
      refine Rc (pkA (b2 := f3) (Od.loc 3 64) (fun hb => by subst hb; exact Od.lc 6 67) (HEF.out)) ?_
      exact RgAll.nil
     intro v W49 e1 hΦ _
     replace S := S.mono e1
     have v7 : v 7 = .bool false := hΦ 7 (by decide)
     simp only [layL, Act.put, uAx, u0x, u1x, Nat.reduceAdd]
     rw [v7]
     clear v7 hΦ e1
     refine wpList_nil ?_
     go_upto_region 22 with (fail)
     refine rg 4 [some 71, some 72, some 73, some 74] [IsI k2 (((nn : Nat) : Int)), IsI k2 (((b : Nat) : Int)), IsI k2 (((na : Nat) : Int)), IsI k2 (((b : Nat) : Int))] [] 2 ?_ ?_
     ·refine Rc (ldI S 0 (w.heap.size + 1) 0 (Od.lit 3) ld_Int) ?_
      refine Rc (ldI S 1 (w.heap.size) 0 (Od.lit 2) ld_Int) ?_
      refine Rc (cl2 (en Tryz.func117) (Od.lc (Φ := IsI k2 (((nn : Nat) : Int))) 0 71) (Od.lc (Φ := IsI k2 (((b : Nat) : Int))) 1 72) (fun x0 x1 w' hE d0 d1 => Calls.mono (mmod_f d0 d1 HK.out.2 HK.out.2 HBZ.out) fun _ _ h => h.eqz HNM.out)) ?_
      refine Rc (ldI S 1 (w.heap.size) 0 (Od.lit 2) ld_Int) ?_
      exact RgAll.nil
     intro v W50 e1 hΦ _
     replace S := S.mono e1
     have h73 := hΦ 2 (by decide)
     have h74 := hΦ 3 (by decide)
     simp only [layL, Act.put, uAx, u0x, u1x, Nat.reduceAdd]
     clear hΦ e1
     refine stA 4 (h := fun KK hKK => stI S 1 (w.heap.size) 0 h73 st_Int (fun W51 S2 G2 => hKK _ _ ?_) rfl)
     replace h74 := (IsI.gstb _ _) _ _ _ G2 h74
     replace S := S2; clear S2 G2 hKK KK h73
     simp only [u0x, u1x] at S
     refine stA 5 (h := fun KK hKK => stI S 0 (w.heap.size + 1) 0 h74 st_Int (fun W52 S2 G2 => hKK _ _ ?_) rfl)
     replace S := S2; clear S2 G2 hKK KK h74
     simp only [u0x] at S
     refine wpAny_done (by kernel_rfl) ?_ _
     have S' := hid S; clear S
     go_wp2_with fail
     go_roundg na
     case measure => have := HHN.out; omega
     case rel => exact ⟨na, b, f, kq, rfl, rfl, by have := HHN.out; omega, HHN.out.2.2.1, by have := HHN.out; omega, by have := HHN.out; omega, HHK.out, HHR.out, S'⟩

theorem Kron_f {k1 k2 n : Nat} {z : Int} {x y : Value} {w : World} (hx : IsI k1 z x w) (hy : IsI k2 ((n : Nat) : Int) y w) (l1 : k1 ≤ 33554432) (l2 : k2 ≤ 33554432) (hs : Sg w) (hn : 0 < n ∧ n ≤ 4611686018427387904) : Calls Tryz.prog 62 #[x, y] w (Ret w (IsV (.int .i64 (kr z n)))) := by
 have hs1 : ((n : Nat) : Int).sign = 1 := Int.sign_eq_one_of_pos (by omega)
 unfold kr
 by_cases he : z % 2 = 0 ∧ n % 2 = 0
 ·rw [if_pos he]
  exact Kron_0 hx hy _ _ _ _ (hid rfl) (hid rfl) (hid rfl) (hid rfl) (hid hs1) (hid (by simp; omega))
 ·rw [if_neg he]
  dsimp only
  have hee : (!decide (z % 2 = 1) && !decide (((n : Nat) : Int) % 2 = 1)) = false := by
   rw [Bool.eq_false_iff]; intro k; simp only [Bool.and_eq_true, Bool.not_eq_true', decide_eq_false_iff_not] at k; exact he (by omega)
  obtain ⟨t1, t2, t3, t4⟩ := tws_spec hn.1
  obtain ⟨m, hm⟩ : ∃ m, (tws n).1 = m := ⟨_, rfl⟩
  obtain ⟨c, hc⟩ : ∃ c, (tws n).2 = c := ⟨_, rfl⟩
  rw [hm] at t1 t2 t3
  rw [hm, hc]
  have hz0 : 0 ≤ z % (m : Int) := Int.emod_nonneg _ (by omega)
  have hz1 : z % (m : Int) < m := Int.emod_lt_of_pos _ (by omega)
  have ha0 : z % (m : Int) = (((z % (m : Int)).toNat : Nat) : Int) := (Int.toNat_of_nonneg hz0).symm
  rcases Nat.mod_two_eq_zero_or_one c with h2 | h2
  ·rw [if_neg (by omega)]
   exact Kron_1 hx hy (hid ⟨l1, l2⟩) (hid hs) (hid hn) _ _ _ _ (hid rfl) (hid rfl) (hid rfl) (hid rfl) (hid hs1) (hid hee) (hid (by omega)) m c _ _ (hid ⟨hm, hc⟩) (hid (by rw [Int.tmod_eq_emod_of_nonneg (by omega)]; omega)) (hid (by omega)) (hid ha0) (hid (by omega)) (hid ⟨by decide, rfl⟩)
  ·rw [if_pos h2]
   have hsg := sg8_le (z % 8).toNat
   exact Kron_2 hx hy (hid ⟨l1, l2⟩) (hid hs) (hid hn) _ _ _ _ (hid rfl) (hid rfl) (hid rfl) (hid rfl) (hid hs1) (hid hee) (hid (by omega)) m c _ _ (hid ⟨hm, hc⟩) (hid (by rw [Int.tmod_eq_emod_of_nonneg (by omega)]; omega)) (hid (by omega)) (hid ha0) (hid (by omega)) (z % 8).toNat (hid (by omega)) (hid ⟨by rw [Int.one_mul]; simp only [IntKind.wrap_i64]; omega, by simp only [IntKind.wrap_i64]; omega⟩) (hid ⟨hsg, rfl⟩)
end Go.Proofs.YtknffgdbdadpcaaGreatDoor
