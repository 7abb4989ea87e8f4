/-
 The law EvalSearches: its walk, over the examples' contract. (Printed by wip/gen/law43.py.)
-/
import Derived.Test.YtkeikfekkdplgaaGreatDoorRfb
namespace Go.Proofs.YtkeikfekkdplgaaGreatDoor
open Go Go.RowKit Go.Maps
/-- The result of a run, in its box. -/
structure OutAt (res : Res Kn) (left : Nat) (rd : List ByteArray) (hy : List Int) (g : Nat) (W : World) : Prop where
 vl : ∃ (vl : List Value) (ha : Option Addr) (hn hc : Nat), vl.length = 11 ∧ (∀ j v, vl[j]? = some v → World.cell? W ⟨g, j, none⟩ = some v) ∧ IsVl res (.slice ha hn hc) (.agg vl.toArray) W ∧ IsRI 0 hy (.slice ha hn hc) W
 rd : ∃ (ra : Option Addr) (rn rc : Nat), World.cell? W ⟨g, 11, none⟩ = some (.slice ra rn rc) ∧ IsRS 0 rd (.slice ra rn rc) W
 left : World.cell? W ⟨g, 12, none⟩ = some (.int .i64 ((left : Nat) : Int))
theorem OutAt.ext {res : Res Kn} {left : Nat} {rd : List ByteArray} {hy : List Int} {g : Nat} {W W' : World} (h : OutAt res left rd hy g W) (e : Ext W W') : OutAt res left rd hy g W' := by
 obtain ⟨⟨vl, ha, hn, hc, h1, h2, h3, h4⟩, ⟨ra, rn, rc, h5, h6⟩, h7⟩ := h
 exact ⟨⟨vl, ha, hn, hc, h1, fun j v hj => e.cell (h2 j v hj), IsVl.stb _ _ _ _ _ e h3, h4.ext e⟩, ⟨ra, rn, rc, e.cell h5, h6.ext e⟩, e.cell h7⟩
/-- A value of a run. -/
def IsVv (res : Res Kn) : Value → World → Prop := fun x w => ∃ a n c, IsVl res (.slice a n c) x w
theorem IsVv.stb (res : Res Kn) : Stb (IsVv res) := fun _ _ _ e ⟨a, n, c, h⟩ => ⟨a, n, c, IsVl.stb _ _ _ _ _ e h⟩
theorem is_v {lo hi : Int} {f : Bool} {x : Value} {w : World} (hx : IsVv (.ok ⟨lo, hi, f⟩) x w) (hl : -9223372036854775808 ≤ lo ∧ lo ≤ 9223372036854775807) (hh : -9223372036854775808 ≤ hi ∧ hi ≤ 9223372036854775807) :
  Calls Tryz.prog 38 #[x, .int .i64 lo, .int .i64 hi, .bool f] w (Ret w (IsV (.bool true))) := let ⟨_, _, _, h⟩ := hx; is_f (q := ⟨lo, hi, f⟩) h hl hh
set_option maxRecDepth 100000
theorem ld_VlO {w : World} {g : Nat} {vs : List Value} (hl : vs.length = 11) (hc : ∀ j v, vs[j]? = some v → World.cell? w ⟨g, j, none⟩ = some v) : (Instr.loadAt 50 (.pointer (some ⟨g, 0, none⟩))).run Tryz.prog w = .ok (.agg vs.toArray) w := by
 obtain ⟨v0, v1, v2, v3, v4, v5, v6, v7, v8, v9, v10, rfl⟩ := len11 hl
 have c0 := hc 0 _ rfl; have c1 := hc 1 _ rfl; have c2 := hc 2 _ rfl; have c3 := hc 3 _ rfl; have c4 := hc 4 _ rfl; have c5 := hc 5 _ rfl; have c6 := hc 6 _ rfl; have c7 := hc 7 _ rfl; have c8 := hc 8 _ rfl; have c9 := hc 9 _ rfl; have c10 := hc 10 _ rfl
 clear hc hl
 go_simp
theorem fa_Out0 (g : Nat) (w : World) : (Instr.fieldAt 53 (.pointer (some ⟨g, 0, none⟩)) 0).run Tryz.prog w = .ok (.pointer (some ⟨g, 0, none⟩)) w := by go_simp
theorem fa_Out1 (g : Nat) (w : World) : (Instr.fieldAt 53 (.pointer (some ⟨g, 0, none⟩)) 1).run Tryz.prog w = .ok (.pointer (some ⟨g, 11, none⟩)) w := by go_simp
theorem fa_Out2 (g : Nat) (w : World) : (Instr.fieldAt 53 (.pointer (some ⟨g, 0, none⟩)) 2).run Tryz.prog w = .ok (.pointer (some ⟨g, 12, none⟩)) w := by go_simp
section
variable {ops : Array Oper} {Q : Exit → Act → World → Prop} {ds : List (Option Tmp)} {a0 : Act} {w0 : World} {L : List (Value → World → Prop)} {boxes : List Nat} {i k : Nat} {o : Oper} {os : List Oper}
theorem cvx {P : Program} {x : Operand} {S T : Nat} {p r : Value} (hx : Od ops ds a0 w0 L i x (IsV p)) (hr : ∀ w, Sem.run P (convert S T p) w = .ok r w) (ho : o.op = .convert S T x := by rfl) (hi : L.getD i (fun _ _ => True) = IsV r := by kernel_rfl) (hb : boxes.contains i = false := by kernel_rfl) : Ok P ops Q ds a0 w0 L boxes i o :=
 Ok.of hb fun v a w hE hd hf => by
  have h1 : a.eval x = p := hx.out v a w hE hd hf
  refine ⟨r, ?_, by rw [hi]; exact rfl⟩
  have := hr w
  unfold execOp
  rw [ho]
  dsimp only
  rw [h1]
  simp [this]
/-- The value of a result in its box; the steps left. -/
theorem ldVv {res : Res Kn} {left g : Nat} {rd : List ByteArray} {hy : List Int} {x : Operand} (h : OutAt res left rd hy g w0) (hx : Od ops ds a0 w0 L i x (IsV (.pointer (some ⟨g, 0, none⟩)))) (ho : o.op = .load 50 x := by rfl) (hi : L.getD i (fun _ _ => True) = IsVv res := by kernel_rfl) (hb : boxes.contains i = false := by kernel_rfl) : Ok Tryz.prog ops Q ds a0 w0 L boxes i o := by
 obtain ⟨⟨vl, ha, hn, hc, h1, h2, h3, h4⟩, _, _⟩ := h
 exact lv _ (fun w e => ld_VlO h1 (fun j v hj => e.cell (h2 j v hj))) hx (fun w e => ⟨ha, hn, hc, IsVl.stb _ _ _ _ _ e h3⟩) ho hi hb
theorem ldLeft {res : Res Kn} {left g : Nat} {rd : List ByteArray} {hy : List Int} {x : Operand} (h : OutAt res left rd hy g w0) (hx : Od ops ds a0 w0 L i x (IsV (.pointer (some ⟨g, 12, none⟩)))) (ho : o.op = .load 3 x := by rfl) (hi : L.getD i (fun _ _ => True) = IsV (.int .i64 ((left : Nat) : Int)) := by kernel_rfl) (hb : boxes.contains i = false := by kernel_rfl) : Ok Tryz.prog ops Q ds a0 w0 L boxes i o :=
 lv _ (fun w e => ld_i w _ _ (e.cell h.left)) hx (fun _ _ => rfl) ho hi hb
theorem stOut {W : World} {g : Nat} {res : Res Kn} {left : Nat} {rd : List ByteArray} {hy : List Int} {u : Value} {a : Act} {K : Act → World → Prop} {x y : Operand} (B : Bk W g zOut) (hu : IsOut res left rd hy u W) (hri : ∀ W', OnlyB g W W' → ∀ v, IsRI 0 hy v W → IsRI 0 hy v W') (hrs : ∀ W', OnlyB g W W' → ∀ v, IsRS 0 rd v W → IsRS 0 rd v W')
  (h : ∀ W', OutAt res left rd hy g W' → OnlyB g W W' → K a W') (ho : o.op = .store 53 x y := by rfl) (hd : o.dst = none := by rfl) (hx : a.eval x = .pointer (some ⟨g, 0, none⟩) := by kernel_rfl) (hy' : a.eval y = u := by kernel_rfl) : Oper.wp Tryz.prog o a W K Q := by
 obtain ⟨vl, ha, hn, hc, ra, rn, rc, rfl, h1, h2, h3, h4, h5, h6⟩ := hu
 obtain ⟨v0, v1, v2, v3, v4, v5, v6, v7, v8, v9, v10, rfl⟩ := len11 h1
 have hone : [v0, v1, v2, v3, v4, v5, v6, v7, v8, v9, v10, Value.slice ra rn rc, .int .i64 ((left : Nat) : Int)].all (fun u => u.oneCell') = true := by
  rw [show [v0, v1, v2, v3, v4, v5, v6, v7, v8, v9, v10, Value.slice ra rn rc, .int .i64 ((left : Nat) : Int)] = [v0, v1, v2, v3, v4, v5, v6, v7, v8, v9, v10] ++ [Value.slice ra rn rc, .int .i64 ((left : Nat) : Int)] from rfl, List.all_append, h2]; rfl
 refine stVO (us := [v0, v1, v2, v3, v4, v5, v6, v7, v8, v9, v10, .slice ra rn rc, .int .i64 ((left : Nat) : Int)]) B st_Out rfl rfl nwOut (fun W' B' O => h W' ⟨⟨[v0, v1, v2, v3, v4, v5, v6, v7, v8, v9, v10], ha, hn, hc, rfl, fun j v hj => B'.c j v (getE_app _ [Value.slice ra rn rc, .int .i64 ((left : Nat) : Int)] hj), IsVl.gstb _ _ _ _ _ O.gr h4, hri W' O _ h5⟩, ⟨ra, rn, rc, B'.c 11 _ rfl, hrs W' O _ h6⟩, B'.c 12 _ rfl⟩ O) ho hd hx hy' hone
end

section
variable {C : ByteArray → Prop} {V : ByteArray → Int → Env → Prop}
theorem wf_num {z : Int} {env : Env} (h : -4294967295 ≤ z ∧ z ≤ 4294967295) : wfE C V (.num z) env := by
 show z.natAbs < 4294967296 ^ 128
 exact Nat.lt_of_lt_of_le (show z.natAbs < 4294967296 by omega) (by decide +kernel)
theorem wf_var {x : ByteArray} {i : Int} (h : -9223372036854775808 ≤ i ∧ i ≤ 9223372036854775807) : wfE C V (.var x) ([] ++ [(x, i)]) := ⟨by simp [ba_beq], by rw [look_one]; exact h⟩
theorem wf_bin {op : Int} {p q : Ex} {env : Env} (h : op = 4 ∨ op = 5 ∨ op = 6 ∨ op = 7 ∨ op = 8 ∨ op = 12 ∨ op = 13) (hp : wfE C V p env) (hq : wfE C V q env) : wfE C V (.bin op p q) env := ⟨h, hp, hq⟩
theorem wf_loop {fst : Bool} {x : ByteArray} {lo hi : Int} {b : Ex} {env : Env} (h : -1099511627776 ≤ lo ∧ lo ≤ hi + 1 ∧ hi ≤ 1099511627776) (hb : ∀ n, lo ≤ n → n ≤ hi → wfE C V b (env ++ [(x, n)])) (hl : env.length < 1000000 := by simp) : wfE C V (.loop fst x lo hi b) env := ⟨hl, h.1, h.2.1, h.2.2, hb⟩
end
set_option maxRecDepth 100000 in
set_option maxHeartbeats 16000000 in
theorem Searches_w (w : World) (lo size k : Nat) (h1 : lo < 256) (h2 : size < 256) (h3 : k < 256) (HEX : Hid (∀ w', Ext w w' → Calls Tryz.prog 10 #[] w' (Ret w' (IsV (.bool true))))) :
  Calls Tryz.prog 9 #[.int .u8 ((lo : Nat) : Int), .int .u8 ((size : Nat) : Int), .int .u8 ((k : Nat) : Int)] w (Ret w (IsV (.bool true))) := by
 go_enter Tryz.func9, Tryz.ntmps9
 have a1 : IntKind.i64.wrap ((lo : Int) - 128) = (lo : Int) - 128 := by simp only [IntKind.wrap_i64]; omega
 have a2 : wrap64 ((lo : Int) - 128 + (k : Int) % (1 + (size : Int) % 100)) = (lo : Int) - 128 + (k : Int) % (1 + (size : Int) % 100) := by
  have b1 := Int.emod_nonneg (k : Int) (show (1 + (size : Int) % 100) ≠ 0 by omega)
  have b2 := Int.emod_lt_of_pos (k : Int) (show 0 < (1 + (size : Int) % 100) by omega)
  unfold wrap64; omega
 go_upto_region 8 with (go_at_call 10; refine Calls.mono (HEX.out _ (Ext.refl _)) ?_; rintro e w1 ⟨_, rfl, e1, rfl⟩)
 have E := e1
 obtain ⟨fr, hfr⟩ : ∃ fr : Int, (lo : Int) - 128 = fr := ⟨_, rfl⟩
 obtain ⟨n, hn⟩ : ∃ n : Nat, 1 + (size : Int) % 100 = (n : Int) := ⟨(1 + (size : Int) % 100).toNat, by omega⟩
 have c1 := Int.emod_nonneg (k : Int) (show (n : Int) ≠ 0 by omega)
 have c2 := Int.emod_lt_of_pos (k : Int) (show 0 < (n : Int) by omega)
 rw [hfr, hn] at a2 ⊢
 try rw [a2]
 obtain ⟨at_, hat⟩ : ∃ a : Int, fr + (k : Int) % (n : Int) = a := ⟨_, rfl⟩
 obtain ⟨up, hup⟩ : ∃ a : Int, fr + (n : Int) - 1 = a := ⟨_, rfl⟩
 rw [hat, hup]
 obtain ⟨m, hm⟩ : ∃ m : Nat, (m : Int) = up - at_ := ⟨(up - at_).toNat, by omega⟩
 obtain ⟨kk, hkk⟩ : ∃ j : Nat, (k : Int) % 200 = (j : Int) := ⟨((k : Int) % 200).toNat, by omega⟩
 obtain ⟨sm, hsm⟩ : ∃ j : Nat, (size : Int) % 9 = (j : Int) := ⟨((size : Int) % 9).toNat, by omega⟩
 obtain ⟨hn2, hhn⟩ : ∃ j : Nat, (n : Int) / 2 = (j : Int) := ⟨((n : Int) / 2).toNat, by omega⟩
 have HB := hid (show -128 ≤ fr ∧ fr ≤ 127 ∧ 1 ≤ n ∧ n ≤ 100 ∧ up = fr + (n : Int) - 1 ∧ fr ≤ at_ ∧ at_ ≤ up ∧ (m : Int) = up - at_ by omega)
 have HKK := hid (show (k : Int).tmod 200 = (kk : Int) by rw [Int.tmod_eq_emod_of_nonneg (by omega)]; exact hkk)
 have HKL := hid (show kk < 200 by omega)
 have HKW := hid (show IntKind.i64.wrap ((kk : Nat) : Int) = ((kk : Nat) : Int) by simp only [IntKind.wrap_i64]; omega)
 have hkq : kk * kk ≤ 199 * 199 := Nat.mul_le_mul (by omega) (by omega)
 have hkp : ((kk : Nat) : Int) * ((kk : Nat) : Int) = ((kk * kk : Nat) : Int) := by rw [Int.natCast_mul]
 have HKB := hid (show -9223372036854775808 ≤ ((kk : Nat) : Int) * ((kk : Nat) : Int) ∧ ((kk : Nat) : Int) * ((kk : Nat) : Int) ≤ 9223372036854775807 by rw [hkp]; omega)
 have HKV := hid (show -4294967295 ≤ ((kk : Nat) : Int) * ((kk : Nat) : Int) ∧ ((kk : Nat) : Int) * ((kk : Nat) : Int) ≤ 4294967295 by rw [hkp]; omega)
 have HKS := hid (show IntKind.i64.wrap (((kk : Nat) : Int) * ((kk : Nat) : Int)) = ((kk : Nat) : Int) * ((kk : Nat) : Int) by rw [hkp]; simp only [IntKind.wrap_i64]; omega)
 have HSM := hid (show (size : Int).tmod 9 = (sm : Int) by rw [Int.tmod_eq_emod_of_nonneg (by omega)]; exact hsm)
 have HSL := hid (show sm < 9 by omega)
 have HSW := hid (show IntKind.i64.wrap ((sm : Nat) : Int) = ((sm : Nat) : Int) by simp only [IntKind.wrap_i64]; omega)
 have HSP := hid (show IntKind.i64.wrap (((sm : Nat) : Int) + 1) = ((sm + 1 : Nat) : Int) by simp only [IntKind.wrap_i64]; omega)
 have HHN := hid hhn
 have HHW := hid (show IntKind.i64.wrap ((hn2 : Nat) : Int) = ((hn2 : Nat) : Int) by simp only [IntKind.wrap_i64]; omega)
 have HHB := hid (show hn2 < n ∧ 2 * hn2 ≤ n ∧ n ≤ 2 * hn2 + 1 by omega)
 have HAF := hid (show IntKind.i64.wrap (at_ - fr) = at_ - fr by simp only [IntKind.wrap_i64]; omega)
 have HU1 := hid (show IntKind.i64.wrap (up + 1) = up + 1 by simp only [IntKind.wrap_i64]; omega)
 have HUM := hid (show IntKind.i64.wrap (up - at_) = ((m : Nat) : Int) by simp only [IntKind.wrap_i64]; omega)
 have HK9 := hid (show IntKind.i64.wrap (199 - ((kk : Nat) : Int)) = ((199 - kk : Nat) : Int) by simp only [IntKind.wrap_i64]; omega)
 have HFH := hid (show IntKind.i64.wrap (fr + ((hn2 : Nat) : Int)) = fr + ((hn2 : Nat) : Int) by simp only [IntKind.wrap_i64]; omega)
 clear a1 a2 hfr hn c1 c2 hat hup hm hkk hsm hhn hkq hkp h1 h2 h3 HEX e1
 refine rgs 1 [some 40] [IsNe (.var (⟨#[120]⟩))] [] ?_ ?_ (hst := by repeat' (first | exact trivial | exact IsV.stb _ | apply IsIf.stb | exact IsNe.stb _ | exact IsVv.stb _ | exact IsOut.stb _ _ _ _ | exact IsNb.stb _ _ | fail | apply And.intro))
 ·refine Rc (cl (en Tryz.func40) rfl rfl (by kernel_rfl) (by kernel_rfl) fun v a w2 hE hd hf => by
    simp only [List.map_toArray, List.map_cons, List.map_nil]
    exact variable_f w2 _) ?_
  exact RgAll.nil
 intro v X1 e1 hΦ _
 obtain ⟨u, hu⟩ : ∃ u, v 0 = u := ⟨_, rfl⟩
 have hO : (IsNe (.var (⟨#[120]⟩))) u X1 := by rw [← hu]; exact hΦ 0 (by decide)
 simp only [layL, Act.put, uAx, u0x, u1x]
 rw [hu]
 clear hΦ hu
 obtain ⟨us12, hus, hl12, hone, hnw, _⟩ := id hO
 subst hus
 refine stL (fun K hK => ?_)
 refine wp_alB (vs := zNd) al_Nd (fun Bn e3 => hK _ _ ?_)
 obtain ⟨g12, hg12⟩ : ∃ g, X1.heap.size = g := ⟨_, rfl⟩
 rw [hg12] at Bn ⊢
 generalize X1.alloc (.cells zNd.toArray 31) = Y2 at Bn e3 ⊢
 clear hK K
 go_simp
 refine stL (fun K hK => ?_)
 refine stVO (us := us12) Bn st_Nd rfl hl12 nwZN (fun X2 B12 O => hK _ _ ?_) (ho1 := hone)
 have e4 := O.ext e3 (Nat.le_of_eq hg12)
 have e2 := e1.trans e4
 have hx12 := IsNe.stb _ _ _ _ e4 hO
 replace E := E.trans e2
 clear hK K O e1 e2 e3 e4 Bn hone hnw hO hg12
 refine wpList_nil ?_
 go_upto_region 9 with (fail)
 refine rg 10 [some 41, some 42, some 43, some 44, some 45, some 46, some 47, some 48, some 49, some 13] [IsV (.int .i64 fr), IsV (.int .i64 up), IsNe (.var (⟨#[120]⟩)), IsV (.int .i64 at_), IsNe (.num (at_)), IsNe (.bin (12) (.var (⟨#[120]⟩)) (.num (at_))), IsNe (.loop false (⟨#[120]⟩) (fr) (up) (.bin (12) (.var (⟨#[120]⟩)) (.num (at_)))), IsV (.int .i64 ((n : Nat) : Int)), IsOut (.ok ⟨at_ - fr, at_ - fr, true⟩) (0) [] [], IsNb X2.heap.size zOut] [] 1 ?_ ?_ (hst := by repeat' (first | exact trivial | exact IsV.stb _ | apply IsIf.stb | exact IsNe.stb _ | exact IsVv.stb _ | exact IsOut.stb _ _ _ _ | exact IsNb.stb _ _ | fail | apply And.intro))
 ·refine Rc (mv (Od.lit (x := .int .i64 fr) 8)) ?_
  refine Rc (mv (Od.lit (x := .int .i64 up) 10)) ?_
  refine Rc (lv _ (fun w' e => ld_Nd8 w' _ _ hl12 (B12.ext e)) (Od.lit 12) (fun w' e => IsNe.stb _ _ _ _ e hx12)) ?_
  refine Rc (mv (Od.lit (x := .int .i64 at_) 11)) ?_
  refine Rc (cl (en Tryz.func43) rfl rfl (by kernel_rfl) (by kernel_rfl) fun v a w2 hE hd hf => by
    have e0 : (IsV (.int .i64 at_)) (a.eval (.tmp 44)) w2 := ((Od.lc (Φ := IsV (.int .i64 at_)) 3 44) : Od _ _ _ _ _ _ _ _).out v a w2 hE hd hf
    simp only [List.map_toArray, List.map_cons, List.map_nil]
    rw [(e0 : a.eval (.tmp 44) = _)]
    exact num_f w2 _ (by have h9 := HB.out; omega)) ?_
  refine Rc (cl (en Tryz.func28) rfl rfl (by kernel_rfl) (by kernel_rfl) fun v a w2 hE hd hf => by
    have e1 : (IsNe (.var (⟨#[120]⟩))) (a.eval (.tmp 43)) w2 := ((Od.lc (Φ := IsNe (.var (⟨#[120]⟩))) 2 43) : Od _ _ _ _ _ _ _ _).out v a w2 hE hd hf
    have e2 : (IsNe (.num (at_))) (a.eval (.tmp 45)) w2 := ((Od.lc (Φ := IsNe (.num (at_))) 4 45) : Od _ _ _ _ _ _ _ _).out v a w2 hE hd hf
    simp only [List.map_toArray, List.map_cons, List.map_nil]
    exact two_f _ e1 e2) ?_
  refine Rc (cl (en Tryz.func42) rfl rfl (by kernel_rfl) (by kernel_rfl) fun v a w2 hE hd hf => by
    have e2 : (IsV (.int .i64 fr)) (a.eval (.tmp 41)) w2 := ((Od.lc (Φ := IsV (.int .i64 fr)) 0 41) : Od _ _ _ _ _ _ _ _).out v a w2 hE hd hf
    have e3 : (IsV (.int .i64 up)) (a.eval (.tmp 42)) w2 := ((Od.lc (Φ := IsV (.int .i64 up)) 1 42) : Od _ _ _ _ _ _ _ _).out v a w2 hE hd hf
    have e4 : (IsNe (.bin (12) (.var (⟨#[120]⟩)) (.num (at_)))) (a.eval (.tmp 46)) w2 := ((Od.lc (Φ := IsNe (.bin (12) (.var (⟨#[120]⟩)) (.num (at_)))) 5 46) : Od _ _ _ _ _ _ _ _).out v a w2 hE hd hf
    simp only [List.map_toArray, List.map_cons, List.map_nil]
    rw [(e2 : a.eval (.tmp 41) = _), (e3 : a.eval (.tmp 42) = _)]
    exact loop_f _ false rfl _ _ _ e4) ?_
  refine Rc (mv (Od.lit (x := .int .i64 ((n : Nat) : Int)) 9)) ?_
  refine Rc (cl (en Tryz.func41) rfl rfl (by kernel_rfl) (by kernel_rfl) fun v a w2 hE hd hf => by
    have e0 : (IsNe (.loop false (⟨#[120]⟩) (fr) (up) (.bin (12) (.var (⟨#[120]⟩)) (.num (at_))))) (a.eval (.tmp 47)) w2 := ((Od.lc (Φ := IsNe (.loop false (⟨#[120]⟩) (fr) (up) (.bin (12) (.var (⟨#[120]⟩)) (.num (at_))))) 6 47) : Od _ _ _ _ _ _ _ _).out v a w2 hE hd hf
    have e1 : (IsV (.int .i64 ((n : Nat) : Int))) (a.eval (.tmp 48)) w2 := ((Od.lc (Φ := IsV (.int .i64 ((n : Nat) : Int))) 7 48) : Od _ _ _ _ _ _ _ _).out v a w2 hE hd hf
    simp only [List.map_toArray, List.map_cons, List.map_nil]
    rw [(e1 : a.eval (.tmp 48) = _)]
    exact alone_f (s0 := n) (res := .ok ⟨at_ - fr, at_ - fr, true⟩) (left := 0) e0 (by have h9 := HB.out; omega) (wf_loop (by have h9 := HB.out; omega) (fun i i1 i2 => wf_bin (by decide) (wf_var (by have h9 := HB.out; omega)) (wf_num (by have h9 := HB.out; omega)))) (ev_below M0 _ _ fr at_ up (by have h9 := HB.out; omega) (by have h9 := HB.out; omega) n (by have h9 := HB.out; omega))) ?_
  refine Rc (alB al_Out (Nat.le_refl _)) ?_
  exact RgAll.nil
 intro v X3 e1 hΦ _
 obtain ⟨g13, hv9, hg13, Bn⟩ := hΦ 9 (by decide)
 obtain ⟨u, hu⟩ : ∃ u, v 8 = u := ⟨_, rfl⟩
 have hO : (IsOut (.ok ⟨at_ - fr, at_ - fr, true⟩) (0) [] []) u X3 := by rw [← hu]; exact hΦ 8 (by decide)
 simp only [layL, Act.put, uAx, u0x, u1x, Nat.reduceAdd]
 rw [hv9, hu]
 clear hΦ hv9 hu
 refine stA 10 (h := fun K hK => ?_)
 refine stOut Bn hO (fun _ _ _ h => h) (fun _ _ _ h => h) (fun X4 O13 O => hK _ _ ?_)
 have e2 := O.ext e1 hg13
 replace E := E.trans e2
 replace B12 := B12.ext e2
 replace hx12 := IsNe.stb _ _ _ _ e2 hx12
 clear hK K O e1 e2 Bn hO
 refine wpAny_done (by kernel_rfl) ?_ _
 go_upto_region 10 with (fail)
 refine rg 10 [some 50, some 51, some 52, some 53, some 54, some 55, some 56, some 57, some 58, some 14] [IsV (.int .i64 fr), IsV (.int .i64 up), IsNe (.var (⟨#[120]⟩)), IsV (.int .i64 at_), IsNe (.num (at_)), IsNe (.bin (13) (.var (⟨#[120]⟩)) (.num (at_))), IsNe (.loop true (⟨#[120]⟩) (fr) (up) (.bin (13) (.var (⟨#[120]⟩)) (.num (at_)))), IsV (.int .i64 ((n : Nat) : Int)), IsOut (.ok ⟨at_, at_, true⟩) (m) [] [], IsNb X4.heap.size zOut] [] 1 ?_ ?_ (hst := by repeat' (first | exact trivial | exact IsV.stb _ | apply IsIf.stb | exact IsNe.stb _ | exact IsVv.stb _ | exact IsOut.stb _ _ _ _ | exact IsNb.stb _ _ | fail | apply And.intro))
 ·refine Rc (mv (Od.lit (x := .int .i64 fr) 8)) ?_
  refine Rc (mv (Od.lit (x := .int .i64 up) 10)) ?_
  refine Rc (lv _ (fun w' e => ld_Nd8 w' _ _ hl12 (B12.ext e)) (Od.lit 12) (fun w' e => IsNe.stb _ _ _ _ e hx12)) ?_
  refine Rc (mv (Od.lit (x := .int .i64 at_) 11)) ?_
  refine Rc (cl (en Tryz.func43) rfl rfl (by kernel_rfl) (by kernel_rfl) fun v a w2 hE hd hf => by
    have e0 : (IsV (.int .i64 at_)) (a.eval (.tmp 53)) w2 := ((Od.lc (Φ := IsV (.int .i64 at_)) 3 53) : Od _ _ _ _ _ _ _ _).out v a w2 hE hd hf
    simp only [List.map_toArray, List.map_cons, List.map_nil]
    rw [(e0 : a.eval (.tmp 53) = _)]
    exact num_f w2 _ (by have h9 := HB.out; omega)) ?_
  refine Rc (cl (en Tryz.func28) rfl rfl (by kernel_rfl) (by kernel_rfl) fun v a w2 hE hd hf => by
    have e1 : (IsNe (.var (⟨#[120]⟩))) (a.eval (.tmp 52)) w2 := ((Od.lc (Φ := IsNe (.var (⟨#[120]⟩))) 2 52) : Od _ _ _ _ _ _ _ _).out v a w2 hE hd hf
    have e2 : (IsNe (.num (at_))) (a.eval (.tmp 54)) w2 := ((Od.lc (Φ := IsNe (.num (at_))) 4 54) : Od _ _ _ _ _ _ _ _).out v a w2 hE hd hf
    simp only [List.map_toArray, List.map_cons, List.map_nil]
    exact two_f _ e1 e2) ?_
  refine Rc (cl (en Tryz.func42) rfl rfl (by kernel_rfl) (by kernel_rfl) fun v a w2 hE hd hf => by
    have e2 : (IsV (.int .i64 fr)) (a.eval (.tmp 50)) w2 := ((Od.lc (Φ := IsV (.int .i64 fr)) 0 50) : Od _ _ _ _ _ _ _ _).out v a w2 hE hd hf
    have e3 : (IsV (.int .i64 up)) (a.eval (.tmp 51)) w2 := ((Od.lc (Φ := IsV (.int .i64 up)) 1 51) : Od _ _ _ _ _ _ _ _).out v a w2 hE hd hf
    have e4 : (IsNe (.bin (13) (.var (⟨#[120]⟩)) (.num (at_)))) (a.eval (.tmp 55)) w2 := ((Od.lc (Φ := IsNe (.bin (13) (.var (⟨#[120]⟩)) (.num (at_)))) 5 55) : Od _ _ _ _ _ _ _ _).out v a w2 hE hd hf
    simp only [List.map_toArray, List.map_cons, List.map_nil]
    rw [(e2 : a.eval (.tmp 50) = _), (e3 : a.eval (.tmp 51) = _)]
    exact loop_f _ true rfl _ _ _ e4) ?_
  refine Rc (mv (Od.lit (x := .int .i64 ((n : Nat) : Int)) 9)) ?_
  refine Rc (cl (en Tryz.func41) rfl rfl (by kernel_rfl) (by kernel_rfl) fun v a w2 hE hd hf => by
    have e0 : (IsNe (.loop true (⟨#[120]⟩) (fr) (up) (.bin (13) (.var (⟨#[120]⟩)) (.num (at_))))) (a.eval (.tmp 56)) w2 := ((Od.lc (Φ := IsNe (.loop true (⟨#[120]⟩) (fr) (up) (.bin (13) (.var (⟨#[120]⟩)) (.num (at_))))) 6 56) : Od _ _ _ _ _ _ _ _).out v a w2 hE hd hf
    have e1 : (IsV (.int .i64 ((n : Nat) : Int))) (a.eval (.tmp 57)) w2 := ((Od.lc (Φ := IsV (.int .i64 ((n : Nat) : Int))) 7 57) : Od _ _ _ _ _ _ _ _).out v a w2 hE hd hf
    simp only [List.map_toArray, List.map_cons, List.map_nil]
    rw [(e1 : a.eval (.tmp 57) = _)]
    exact alone_f (s0 := n) (res := .ok ⟨at_, at_, true⟩) (left := m) e0 (by have h9 := HB.out; omega) (wf_loop (by have h9 := HB.out; omega) (fun i i1 i2 => wf_bin (by decide) (wf_var (by have h9 := HB.out; omega)) (wf_num (by have h9 := HB.out; omega)))) (ev_found M0 _ _ fr at_ up (by have h9 := HB.out; omega) (by have h9 := HB.out; omega) n m (by have h9 := HB.out; omega) (by have h9 := HB.out; omega))) ?_
  refine Rc (alB al_Out (Nat.le_refl _)) ?_
  exact RgAll.nil
 intro v X5 e1 hΦ _
 obtain ⟨g14, hv9, hg14, Bn⟩ := hΦ 9 (by decide)
 obtain ⟨u, hu⟩ : ∃ u, v 8 = u := ⟨_, rfl⟩
 have hO : (IsOut (.ok ⟨at_, at_, true⟩) (m) [] []) u X5 := by rw [← hu]; exact hΦ 8 (by decide)
 simp only [layL, Act.put, uAx, u0x, u1x, Nat.reduceAdd]
 rw [hv9, hu]
 clear hΦ hv9 hu
 refine stA 10 (h := fun K hK => ?_)
 refine stOut Bn hO (fun _ _ _ h => h) (fun _ _ _ h => h) (fun X6 O14 O => hK _ _ ?_)
 have e2 := O.ext e1 hg14
 replace E := E.trans e2
 replace B12 := B12.ext e2
 replace hx12 := IsNe.stb _ _ _ _ e2 hx12
 replace O13 := O13.ext e2
 clear hK K O e1 e2 Bn hO
 refine wpAny_done (by kernel_rfl) ?_ _
 go_upto_region 11 with (fail)
 refine rg 10 [some 59, some 60, some 61, some 62, some 63, some 64, some 65, some 66, some 67, some 15] [IsV (.int .i64 fr), IsV (.int .i64 up), IsNe (.var (⟨#[120]⟩)), IsV (.int .i64 fr), IsNe (.num (fr)), IsNe (.bin (12) (.var (⟨#[120]⟩)) (.num (fr))), IsNe (.loop true (⟨#[120]⟩) (fr) (up) (.bin (12) (.var (⟨#[120]⟩)) (.num (fr)))), IsV (.int .i64 ((n : Nat) : Int)), IsOut (.ok ⟨up + 1, up + 1, true⟩) (0) [] [], IsNb X6.heap.size zOut] [] 1 ?_ ?_ (hst := by repeat' (first | exact trivial | exact IsV.stb _ | apply IsIf.stb | exact IsNe.stb _ | exact IsVv.stb _ | exact IsOut.stb _ _ _ _ | exact IsNb.stb _ _ | fail | apply And.intro))
 ·refine Rc (mv (Od.lit (x := .int .i64 fr) 8)) ?_
  refine Rc (mv (Od.lit (x := .int .i64 up) 10)) ?_
  refine Rc (lv _ (fun w' e => ld_Nd8 w' _ _ hl12 (B12.ext e)) (Od.lit 12) (fun w' e => IsNe.stb _ _ _ _ e hx12)) ?_
  refine Rc (mv (Od.lit (x := .int .i64 fr) 8)) ?_
  refine Rc (cl (en Tryz.func43) rfl rfl (by kernel_rfl) (by kernel_rfl) fun v a w2 hE hd hf => by
    have e0 : (IsV (.int .i64 fr)) (a.eval (.tmp 62)) w2 := ((Od.lc (Φ := IsV (.int .i64 fr)) 3 62) : Od _ _ _ _ _ _ _ _).out v a w2 hE hd hf
    simp only [List.map_toArray, List.map_cons, List.map_nil]
    rw [(e0 : a.eval (.tmp 62) = _)]
    exact num_f w2 _ (by have h9 := HB.out; omega)) ?_
  refine Rc (cl (en Tryz.func28) rfl rfl (by kernel_rfl) (by kernel_rfl) fun v a w2 hE hd hf => by
    have e1 : (IsNe (.var (⟨#[120]⟩))) (a.eval (.tmp 61)) w2 := ((Od.lc (Φ := IsNe (.var (⟨#[120]⟩))) 2 61) : Od _ _ _ _ _ _ _ _).out v a w2 hE hd hf
    have e2 : (IsNe (.num (fr))) (a.eval (.tmp 63)) w2 := ((Od.lc (Φ := IsNe (.num (fr))) 4 63) : Od _ _ _ _ _ _ _ _).out v a w2 hE hd hf
    simp only [List.map_toArray, List.map_cons, List.map_nil]
    exact two_f _ e1 e2) ?_
  refine Rc (cl (en Tryz.func42) rfl rfl (by kernel_rfl) (by kernel_rfl) fun v a w2 hE hd hf => by
    have e2 : (IsV (.int .i64 fr)) (a.eval (.tmp 59)) w2 := ((Od.lc (Φ := IsV (.int .i64 fr)) 0 59) : Od _ _ _ _ _ _ _ _).out v a w2 hE hd hf
    have e3 : (IsV (.int .i64 up)) (a.eval (.tmp 60)) w2 := ((Od.lc (Φ := IsV (.int .i64 up)) 1 60) : Od _ _ _ _ _ _ _ _).out v a w2 hE hd hf
    have e4 : (IsNe (.bin (12) (.var (⟨#[120]⟩)) (.num (fr)))) (a.eval (.tmp 64)) w2 := ((Od.lc (Φ := IsNe (.bin (12) (.var (⟨#[120]⟩)) (.num (fr)))) 5 64) : Od _ _ _ _ _ _ _ _).out v a w2 hE hd hf
    simp only [List.map_toArray, List.map_cons, List.map_nil]
    rw [(e2 : a.eval (.tmp 59) = _), (e3 : a.eval (.tmp 60) = _)]
    exact loop_f _ true rfl _ _ _ e4) ?_
  refine Rc (mv (Od.lit (x := .int .i64 ((n : Nat) : Int)) 9)) ?_
  refine Rc (cl (en Tryz.func41) rfl rfl (by kernel_rfl) (by kernel_rfl) fun v a w2 hE hd hf => by
    have e0 : (IsNe (.loop true (⟨#[120]⟩) (fr) (up) (.bin (12) (.var (⟨#[120]⟩)) (.num (fr))))) (a.eval (.tmp 65)) w2 := ((Od.lc (Φ := IsNe (.loop true (⟨#[120]⟩) (fr) (up) (.bin (12) (.var (⟨#[120]⟩)) (.num (fr))))) 6 65) : Od _ _ _ _ _ _ _ _).out v a w2 hE hd hf
    have e1 : (IsV (.int .i64 ((n : Nat) : Int))) (a.eval (.tmp 66)) w2 := ((Od.lc (Φ := IsV (.int .i64 ((n : Nat) : Int))) 7 66) : Od _ _ _ _ _ _ _ _).out v a w2 hE hd hf
    simp only [List.map_toArray, List.map_cons, List.map_nil]
    rw [(e1 : a.eval (.tmp 66) = _)]
    exact alone_f (s0 := n) (res := .ok ⟨up + 1, up + 1, true⟩) (left := 0) e0 (by have h9 := HB.out; omega) (wf_loop (by have h9 := HB.out; omega) (fun i i1 i2 => wf_bin (by decide) (wf_var (by have h9 := HB.out; omega)) (wf_num (by have h9 := HB.out; omega)))) (ev_none M0 _ _ fr up (by have h9 := HB.out; omega) n (by have h9 := HB.out; omega))) ?_
  refine Rc (alB al_Out (Nat.le_refl _)) ?_
  exact RgAll.nil
 intro v X7 e1 hΦ _
 obtain ⟨g15, hv9, hg15, Bn⟩ := hΦ 9 (by decide)
 obtain ⟨u, hu⟩ : ∃ u, v 8 = u := ⟨_, rfl⟩
 have hO : (IsOut (.ok ⟨up + 1, up + 1, true⟩) (0) [] []) u X7 := by rw [← hu]; exact hΦ 8 (by decide)
 simp only [layL, Act.put, uAx, u0x, u1x, Nat.reduceAdd]
 rw [hv9, hu]
 clear hΦ hv9 hu
 refine stA 10 (h := fun K hK => ?_)
 refine stOut Bn hO (fun _ _ _ h => h) (fun _ _ _ h => h) (fun X8 O15 O => hK _ _ ?_)
 have e2 := O.ext e1 hg15
 replace E := E.trans e2
 replace B12 := B12.ext e2
 replace hx12 := IsNe.stb _ _ _ _ e2 hx12
 replace O13 := O13.ext e2
 replace O14 := O14.ext e2
 clear hK K O e1 e2 Bn hO
 refine wpAny_done (by kernel_rfl) ?_ _
 go_upto_region 12 with (fail)
 refine rgs 15 [some 68, some 69, some 70, some 71, some 72, some 73, some 74, some 75, some 76, some 77, some 78, some 79, some 80, some 81, some 16] [IsNe (.var (⟨#[120]⟩)), IsNe (.var (⟨#[120]⟩)), IsNe (.bin (6) (.var (⟨#[120]⟩)) (.var (⟨#[120]⟩))), IsV (.int .u8 ((k : Nat) : Int)), IsV (.int .u8 ((kk : Nat) : Int)), IsV (.int .i64 ((kk : Nat) : Int)), IsV (.int .u8 ((k : Nat) : Int)), IsV (.int .u8 ((kk : Nat) : Int)), IsV (.int .i64 ((kk : Nat) : Int)), IsV (.int .i64 (((kk : Nat) : Int) * ((kk : Nat) : Int))), IsNe (.num ((((kk : Nat) : Int) * ((kk : Nat) : Int)))), IsNe (.bin (13) (.bin (6) (.var (⟨#[120]⟩)) (.var (⟨#[120]⟩))) (.num ((((kk : Nat) : Int) * ((kk : Nat) : Int))))), IsNe (.loop true (⟨#[120]⟩) (0) (199) (.bin (13) (.bin (6) (.var (⟨#[120]⟩)) (.var (⟨#[120]⟩))) (.num ((((kk : Nat) : Int) * ((kk : Nat) : Int)))))), IsOut (.ok ⟨((kk : Nat) : Int), ((kk : Nat) : Int), true⟩) (199 - kk) [] [], IsNb X8.heap.size zOut] [] ?_ ?_ (hst := by repeat' (first | exact trivial | exact IsV.stb _ | apply IsIf.stb | exact IsNe.stb _ | exact IsVv.stb _ | exact IsOut.stb _ _ _ _ | exact IsNb.stb _ _ | fail | apply And.intro))
 ·refine Rc (lv _ (fun w' e => ld_Nd8 w' _ _ hl12 (B12.ext e)) (Od.lit 12) (fun w' e => IsNe.stb _ _ _ _ e hx12)) ?_
  refine Rc (lv _ (fun w' e => ld_Nd8 w' _ _ hl12 (B12.ext e)) (Od.lit 12) (fun w' e => IsNe.stb _ _ _ _ e hx12)) ?_
  refine Rc (cl (en Tryz.func28) rfl rfl (by kernel_rfl) (by kernel_rfl) fun v a w2 hE hd hf => by
    have e1 : (IsNe (.var (⟨#[120]⟩))) (a.eval (.tmp 68)) w2 := ((Od.lc (Φ := IsNe (.var (⟨#[120]⟩))) 0 68) : Od _ _ _ _ _ _ _ _).out v a w2 hE hd hf
    have e2 : (IsNe (.var (⟨#[120]⟩))) (a.eval (.tmp 69)) w2 := ((Od.lc (Φ := IsNe (.var (⟨#[120]⟩))) 1 69) : Od _ _ _ _ _ _ _ _).out v a w2 hE hd hf
    simp only [List.map_toArray, List.map_cons, List.map_nil]
    exact two_f _ e1 e2) ?_
  refine Rc (mv (Od.lit (x := .int .u8 ((k : Nat) : Int)) 2)) ?_
  refine Rc (bn (r := .int .u8 ((kk : Nat) : Int)) (Od.lc (Φ := IsV (.int .u8 ((k : Nat) : Int))) 3 71) Od.con (hr := fun w => by have hx9 := HKK.out; go_simp)) ?_
  refine Rc (cvx (S := 5) (T := 2) (r := .int .i64 ((kk : Nat) : Int)) (Od.lc (Φ := IsV (.int .u8 ((kk : Nat) : Int))) 4 72) (hr := fun w => by have hx9 := HKW.out; go_simp)) ?_
  refine Rc (mv (Od.lit (x := .int .u8 ((k : Nat) : Int)) 2)) ?_
  refine Rc (bn (r := .int .u8 ((kk : Nat) : Int)) (Od.lc (Φ := IsV (.int .u8 ((k : Nat) : Int))) 6 74) Od.con (hr := fun w => by have hx9 := HKK.out; go_simp)) ?_
  refine Rc (cvx (S := 5) (T := 2) (r := .int .i64 ((kk : Nat) : Int)) (Od.lc (Φ := IsV (.int .u8 ((kk : Nat) : Int))) 7 75) (hr := fun w => by have hx9 := HKW.out; go_simp)) ?_
  refine Rc (bn (r := .int .i64 (((kk : Nat) : Int) * ((kk : Nat) : Int))) (Od.lc (Φ := IsV (.int .i64 ((kk : Nat) : Int))) 5 73) (Od.lc (Φ := IsV (.int .i64 ((kk : Nat) : Int))) 8 76) (hr := fun w => by have hx9 := HKS.out; go_simp)) ?_
  refine Rc (cl (en Tryz.func43) rfl rfl (by kernel_rfl) (by kernel_rfl) fun v a w2 hE hd hf => by
    have e0 : (IsV (.int .i64 (((kk : Nat) : Int) * ((kk : Nat) : Int)))) (a.eval (.tmp 77)) w2 := ((Od.lc (Φ := IsV (.int .i64 (((kk : Nat) : Int) * ((kk : Nat) : Int)))) 9 77) : Od _ _ _ _ _ _ _ _).out v a w2 hE hd hf
    simp only [List.map_toArray, List.map_cons, List.map_nil]
    rw [(e0 : a.eval (.tmp 77) = _)]
    exact num_f w2 _ (HKB.out)) ?_
  refine Rc (cl (en Tryz.func28) rfl rfl (by kernel_rfl) (by kernel_rfl) fun v a w2 hE hd hf => by
    have e1 : (IsNe (.bin (6) (.var (⟨#[120]⟩)) (.var (⟨#[120]⟩)))) (a.eval (.tmp 70)) w2 := ((Od.lc (Φ := IsNe (.bin (6) (.var (⟨#[120]⟩)) (.var (⟨#[120]⟩)))) 2 70) : Od _ _ _ _ _ _ _ _).out v a w2 hE hd hf
    have e2 : (IsNe (.num ((((kk : Nat) : Int) * ((kk : Nat) : Int))))) (a.eval (.tmp 78)) w2 := ((Od.lc (Φ := IsNe (.num ((((kk : Nat) : Int) * ((kk : Nat) : Int))))) 10 78) : Od _ _ _ _ _ _ _ _).out v a w2 hE hd hf
    simp only [List.map_toArray, List.map_cons, List.map_nil]
    exact two_f _ e1 e2) ?_
  refine Rc (cl (en Tryz.func42) rfl rfl (by kernel_rfl) (by kernel_rfl) fun v a w2 hE hd hf => by
    have e4 : (IsNe (.bin (13) (.bin (6) (.var (⟨#[120]⟩)) (.var (⟨#[120]⟩))) (.num ((((kk : Nat) : Int) * ((kk : Nat) : Int)))))) (a.eval (.tmp 79)) w2 := ((Od.lc (Φ := IsNe (.bin (13) (.bin (6) (.var (⟨#[120]⟩)) (.var (⟨#[120]⟩))) (.num ((((kk : Nat) : Int) * ((kk : Nat) : Int)))))) 11 79) : Od _ _ _ _ _ _ _ _).out v a w2 hE hd hf
    simp only [List.map_toArray, List.map_cons, List.map_nil]
    exact loop_f _ true rfl _ _ _ e4) ?_
  refine Rc (cl (en Tryz.func41) rfl rfl (by kernel_rfl) (by kernel_rfl) fun v a w2 hE hd hf => by
    have e0 : (IsNe (.loop true (⟨#[120]⟩) (0) (199) (.bin (13) (.bin (6) (.var (⟨#[120]⟩)) (.var (⟨#[120]⟩))) (.num ((((kk : Nat) : Int) * ((kk : Nat) : Int))))))) (a.eval (.tmp 80)) w2 := ((Od.lc (Φ := IsNe (.loop true (⟨#[120]⟩) (0) (199) (.bin (13) (.bin (6) (.var (⟨#[120]⟩)) (.var (⟨#[120]⟩))) (.num ((((kk : Nat) : Int) * ((kk : Nat) : Int))))))) 12 80) : Od _ _ _ _ _ _ _ _).out v a w2 hE hd hf
    simp only [List.map_toArray, List.map_cons, List.map_nil]
    exact alone_f (s0 := 200) (res := .ok ⟨((kk : Nat) : Int), ((kk : Nat) : Int), true⟩) (left := 199 - kk) e0 (by decide) (wf_loop (by decide) (fun i i1 i2 => wf_bin (by decide) (wf_bin (by decide) (wf_var (by omega)) (wf_var (by omega))) (wf_num HKV.out))) (ev_square M0 _ _ kk (199 - kk) (by have h9 := HKL.out; omega) rfl)) ?_
  refine Rc (alB al_Out (Nat.le_refl _)) ?_
  exact RgAll.nil
 intro v X9 e1 hΦ _
 obtain ⟨g16, hv14, hg16, Bn⟩ := hΦ 14 (by decide)
 obtain ⟨u, hu⟩ : ∃ u, v 13 = u := ⟨_, rfl⟩
 have hO : (IsOut (.ok ⟨((kk : Nat) : Int), ((kk : Nat) : Int), true⟩) (199 - kk) [] []) u X9 := by rw [← hu]; exact hΦ 13 (by decide)
 simp only [layL, Act.put, uAx, u0x, u1x, Nat.reduceAdd]
 rw [hv14, hu]
 clear hΦ hv14 hu
 refine stL (fun K hK => ?_)
 refine stOut Bn hO (fun _ _ _ h => h) (fun _ _ _ h => h) (fun X10 O16 O => hK _ _ ?_)
 have e2 := O.ext e1 hg16
 replace E := E.trans e2
 replace B12 := B12.ext e2
 replace hx12 := IsNe.stb _ _ _ _ e2 hx12
 replace O13 := O13.ext e2
 replace O14 := O14.ext e2
 replace O15 := O15.ext e2
 clear hK K O e1 e2 Bn hO
 refine wpList_nil ?_
 go_upto_region 13 with (fail)
 refine rgs 9 [some 82, some 83, some 84, some 85, some 86, some 87, some 88, some 89, some 17] [IsV (.int .u8 ((size : Nat) : Int)), IsV (.int .u8 ((sm : Nat) : Int)), IsV (.int .i64 ((sm : Nat) : Int)), IsV (.int .i64 (((sm + 1 : Nat)) : Int)), IsNe (.num (1)), IsNe (.loop false (⟨#[120]⟩) (1) ((((sm + 1 : Nat)) : Int)) (.num (1))), IsNe (.loop false (⟨#[121]⟩) (1) (9) (.loop false (⟨#[120]⟩) (1) ((((sm + 1 : Nat)) : Int)) (.num (1)))), IsOut (.ok ⟨9, 9, true⟩) (91 - 9 * (sm + 1)) [] [], IsNb X10.heap.size zOut] [] ?_ ?_ (hst := by repeat' (first | exact trivial | exact IsV.stb _ | apply IsIf.stb | exact IsNe.stb _ | exact IsVv.stb _ | exact IsOut.stb _ _ _ _ | exact IsNb.stb _ _ | fail | apply And.intro))
 ·refine Rc (mv (Od.lit (x := .int .u8 ((size : Nat) : Int)) 1)) ?_
  refine Rc (bn (r := .int .u8 ((sm : Nat) : Int)) (Od.lc (Φ := IsV (.int .u8 ((size : Nat) : Int))) 0 82) Od.con (hr := fun w => by have hx9 := HSM.out; go_simp)) ?_
  refine Rc (cvx (S := 5) (T := 3) (r := .int .i64 ((sm : Nat) : Int)) (Od.lc (Φ := IsV (.int .u8 ((sm : Nat) : Int))) 1 83) (hr := fun w => by have hx9 := HSW.out; go_simp)) ?_
  refine Rc (bn (r := .int .i64 (((sm + 1 : Nat)) : Int)) (Od.lc (Φ := IsV (.int .i64 ((sm : Nat) : Int))) 2 84) Od.con (hr := fun w => by have hx9 := HSP.out; go_simp)) ?_
  refine Rc (cl (en Tryz.func43) rfl rfl (by kernel_rfl) (by kernel_rfl) fun v a w2 hE hd hf => by
    simp only [List.map_toArray, List.map_cons, List.map_nil]
    exact num_f w2 _ (by decide)) ?_
  refine Rc (cl (en Tryz.func42) rfl rfl (by kernel_rfl) (by kernel_rfl) fun v a w2 hE hd hf => by
    have e3 : (IsV (.int .i64 (((sm + 1 : Nat)) : Int))) (a.eval (.tmp 85)) w2 := ((Od.lc (Φ := IsV (.int .i64 (((sm + 1 : Nat)) : Int))) 3 85) : Od _ _ _ _ _ _ _ _).out v a w2 hE hd hf
    have e4 : (IsNe (.num (1))) (a.eval (.tmp 86)) w2 := ((Od.lc (Φ := IsNe (.num (1))) 4 86) : Od _ _ _ _ _ _ _ _).out v a w2 hE hd hf
    simp only [List.map_toArray, List.map_cons, List.map_nil]
    rw [(e3 : a.eval (.tmp 85) = _)]
    exact loop_f _ false rfl _ _ _ e4) ?_
  refine Rc (cl (en Tryz.func42) rfl rfl (by kernel_rfl) (by kernel_rfl) fun v a w2 hE hd hf => by
    have e4 : (IsNe (.loop false (⟨#[120]⟩) (1) ((((sm + 1 : Nat)) : Int)) (.num (1)))) (a.eval (.tmp 87)) w2 := ((Od.lc (Φ := IsNe (.loop false (⟨#[120]⟩) (1) ((((sm + 1 : Nat)) : Int)) (.num (1)))) 5 87) : Od _ _ _ _ _ _ _ _).out v a w2 hE hd hf
    simp only [List.map_toArray, List.map_cons, List.map_nil]
    exact loop_f _ false rfl _ _ _ e4) ?_
  refine Rc (cl (en Tryz.func41) rfl rfl (by kernel_rfl) (by kernel_rfl) fun v a w2 hE hd hf => by
    have e0 : (IsNe (.loop false (⟨#[121]⟩) (1) (9) (.loop false (⟨#[120]⟩) (1) ((((sm + 1 : Nat)) : Int)) (.num (1))))) (a.eval (.tmp 88)) w2 := ((Od.lc (Φ := IsNe (.loop false (⟨#[121]⟩) (1) (9) (.loop false (⟨#[120]⟩) (1) ((((sm + 1 : Nat)) : Int)) (.num (1))))) 6 88) : Od _ _ _ _ _ _ _ _).out v a w2 hE hd hf
    simp only [List.map_toArray, List.map_cons, List.map_nil]
    exact alone_f (s0 := 100) (res := .ok ⟨9, 9, true⟩) (left := 91 - 9 * (sm + 1)) e0 (by decide) (wf_loop (by decide) (fun i i1 i2 => wf_loop (by have h9 := HSL.out; omega) (fun i i1 i2 => wf_num (by decide)))) (by have h9 := HSL.out; have h8 := ev_rows M0 (([], []) : Sts) ⟨#[120]⟩ ⟨#[121]⟩ (sm + 1) (91 - 9 * (sm + 1)) (by omega); rwa [show 91 - 9 * (sm + 1) + 9 * (sm + 1 + 1) = 100 by omega] at h8)) ?_
  refine Rc (alB al_Out (Nat.le_refl _)) ?_
  exact RgAll.nil
 intro v X11 e1 hΦ _
 obtain ⟨g17, hv8, hg17, Bn⟩ := hΦ 8 (by decide)
 obtain ⟨u, hu⟩ : ∃ u, v 7 = u := ⟨_, rfl⟩
 have hO : (IsOut (.ok ⟨9, 9, true⟩) (91 - 9 * (sm + 1)) [] []) u X11 := by rw [← hu]; exact hΦ 7 (by decide)
 simp only [layL, Act.put, uAx, u0x, u1x, Nat.reduceAdd]
 rw [hv8, hu]
 clear hΦ hv8 hu
 refine stL (fun K hK => ?_)
 refine stOut Bn hO (fun _ _ _ h => h) (fun _ _ _ h => h) (fun X12 O17 O => hK _ _ ?_)
 have e2 := O.ext e1 hg17
 replace E := E.trans e2
 replace B12 := B12.ext e2
 replace hx12 := IsNe.stb _ _ _ _ e2 hx12
 replace O13 := O13.ext e2
 replace O14 := O14.ext e2
 replace O15 := O15.ext e2
 replace O16 := O16.ext e2
 clear hK K O e1 e2 Bn hO
 refine wpList_nil ?_
 go_upto_region 14 with (fail)
 refine rgs 8 [some 90, some 91, some 92, some 93, some 94, some 95, some 96, some 18] [IsV (.int .i64 fr), IsV (.int .i64 up), IsNe (.num (1)), IsNe (.loop false (⟨#[120]⟩) (fr) (up) (.num (1))), IsV (.int .i64 ((n : Nat) : Int)), IsV (.int .i64 ((hn2 : Nat) : Int)), IsOut (.ok ⟨((hn2 : Nat) : Int), ((n : Nat) : Int), false⟩) (0) [] [], IsNb X12.heap.size zOut] [] ?_ ?_ (hst := by repeat' (first | exact trivial | exact IsV.stb _ | apply IsIf.stb | exact IsNe.stb _ | exact IsVv.stb _ | exact IsOut.stb _ _ _ _ | exact IsNb.stb _ _ | fail | apply And.intro))
 ·refine Rc (mv (Od.lit (x := .int .i64 fr) 8)) ?_
  refine Rc (mv (Od.lit (x := .int .i64 up) 10)) ?_
  refine Rc (cl (en Tryz.func43) rfl rfl (by kernel_rfl) (by kernel_rfl) fun v a w2 hE hd hf => by
    simp only [List.map_toArray, List.map_cons, List.map_nil]
    exact num_f w2 _ (by decide)) ?_
  refine Rc (cl (en Tryz.func42) rfl rfl (by kernel_rfl) (by kernel_rfl) fun v a w2 hE hd hf => by
    have e2 : (IsV (.int .i64 fr)) (a.eval (.tmp 90)) w2 := ((Od.lc (Φ := IsV (.int .i64 fr)) 0 90) : Od _ _ _ _ _ _ _ _).out v a w2 hE hd hf
    have e3 : (IsV (.int .i64 up)) (a.eval (.tmp 91)) w2 := ((Od.lc (Φ := IsV (.int .i64 up)) 1 91) : Od _ _ _ _ _ _ _ _).out v a w2 hE hd hf
    have e4 : (IsNe (.num (1))) (a.eval (.tmp 92)) w2 := ((Od.lc (Φ := IsNe (.num (1))) 2 92) : Od _ _ _ _ _ _ _ _).out v a w2 hE hd hf
    simp only [List.map_toArray, List.map_cons, List.map_nil]
    rw [(e2 : a.eval (.tmp 90) = _), (e3 : a.eval (.tmp 91) = _)]
    exact loop_f _ false rfl _ _ _ e4) ?_
  refine Rc (mv (Od.lit (x := .int .i64 ((n : Nat) : Int)) 9)) ?_
  refine Rc (bn (r := .int .i64 ((hn2 : Nat) : Int)) (Od.lc (Φ := IsV (.int .i64 ((n : Nat) : Int))) 4 94) Od.con (hr := fun w => by have hx9 := HHN.out; have hx8 := HHW.out; go_simp)) ?_
  refine Rc (cl (en Tryz.func41) rfl rfl (by kernel_rfl) (by kernel_rfl) fun v a w2 hE hd hf => by
    have e0 : (IsNe (.loop false (⟨#[120]⟩) (fr) (up) (.num (1)))) (a.eval (.tmp 93)) w2 := ((Od.lc (Φ := IsNe (.loop false (⟨#[120]⟩) (fr) (up) (.num (1)))) 3 93) : Od _ _ _ _ _ _ _ _).out v a w2 hE hd hf
    have e1 : (IsV (.int .i64 ((hn2 : Nat) : Int))) (a.eval (.tmp 95)) w2 := ((Od.lc (Φ := IsV (.int .i64 ((hn2 : Nat) : Int))) 5 95) : Od _ _ _ _ _ _ _ _).out v a w2 hE hd hf
    simp only [List.map_toArray, List.map_cons, List.map_nil]
    rw [(e1 : a.eval (.tmp 95) = _)]
    exact alone_f (s0 := hn2) (res := .ok ⟨((hn2 : Nat) : Int), ((n : Nat) : Int), false⟩) (left := 0) e0 (by have h9 := HHB.out; have h8 := HB.out; omega) (wf_loop (by have h9 := HB.out; omega) (fun i i1 i2 => wf_num (by decide))) (ev_part M0 _ _ fr up n hn2 (by have h9 := HB.out; omega) (by have h9 := HHB.out; omega))) ?_
  refine Rc (alB al_Out (Nat.le_refl _)) ?_
  exact RgAll.nil
 intro v X13 e1 hΦ _
 obtain ⟨g18, hv7, hg18, Bn⟩ := hΦ 7 (by decide)
 obtain ⟨u, hu⟩ : ∃ u, v 6 = u := ⟨_, rfl⟩
 have hO : (IsOut (.ok ⟨((hn2 : Nat) : Int), ((n : Nat) : Int), false⟩) (0) [] []) u X13 := by rw [← hu]; exact hΦ 6 (by decide)
 simp only [layL, Act.put, uAx, u0x, u1x, Nat.reduceAdd]
 rw [hv7, hu]
 clear hΦ hv7 hu
 refine stL (fun K hK => ?_)
 refine stOut Bn hO (fun _ _ _ h => h) (fun _ _ _ h => h) (fun X14 O18 O => hK _ _ ?_)
 have e2 := O.ext e1 hg18
 replace E := E.trans e2
 replace B12 := B12.ext e2
 replace hx12 := IsNe.stb _ _ _ _ e2 hx12
 replace O13 := O13.ext e2
 replace O14 := O14.ext e2
 replace O15 := O15.ext e2
 replace O16 := O16.ext e2
 replace O17 := O17.ext e2
 clear hK K O e1 e2 Bn hO
 refine wpList_nil ?_
 go_upto_region 15 with (fail)
 refine rgs 8 [some 97, some 98, some 99, some 100, some 101, some 102, some 103, some 19] [IsV (.int .i64 fr), IsV (.int .i64 up), IsNe (.num (0)), IsNe (.loop true (⟨#[120]⟩) (fr) (up) (.num (0))), IsV (.int .i64 ((n : Nat) : Int)), IsV (.int .i64 ((hn2 : Nat) : Int)), IsOut (.ok ⟨fr + ((hn2 : Nat) : Int), up + 1, false⟩) (0) [] [], IsNb X14.heap.size zOut] [] ?_ ?_ (hst := by repeat' (first | exact trivial | exact IsV.stb _ | apply IsIf.stb | exact IsNe.stb _ | exact IsVv.stb _ | exact IsOut.stb _ _ _ _ | exact IsNb.stb _ _ | fail | apply And.intro))
 ·refine Rc (mv (Od.lit (x := .int .i64 fr) 8)) ?_
  refine Rc (mv (Od.lit (x := .int .i64 up) 10)) ?_
  refine Rc (cl (en Tryz.func43) rfl rfl (by kernel_rfl) (by kernel_rfl) fun v a w2 hE hd hf => by
    simp only [List.map_toArray, List.map_cons, List.map_nil]
    exact num_f w2 _ (by decide)) ?_
  refine Rc (cl (en Tryz.func42) rfl rfl (by kernel_rfl) (by kernel_rfl) fun v a w2 hE hd hf => by
    have e2 : (IsV (.int .i64 fr)) (a.eval (.tmp 97)) w2 := ((Od.lc (Φ := IsV (.int .i64 fr)) 0 97) : Od _ _ _ _ _ _ _ _).out v a w2 hE hd hf
    have e3 : (IsV (.int .i64 up)) (a.eval (.tmp 98)) w2 := ((Od.lc (Φ := IsV (.int .i64 up)) 1 98) : Od _ _ _ _ _ _ _ _).out v a w2 hE hd hf
    have e4 : (IsNe (.num (0))) (a.eval (.tmp 99)) w2 := ((Od.lc (Φ := IsNe (.num (0))) 2 99) : Od _ _ _ _ _ _ _ _).out v a w2 hE hd hf
    simp only [List.map_toArray, List.map_cons, List.map_nil]
    rw [(e2 : a.eval (.tmp 97) = _), (e3 : a.eval (.tmp 98) = _)]
    exact loop_f _ true rfl _ _ _ e4) ?_
  refine Rc (mv (Od.lit (x := .int .i64 ((n : Nat) : Int)) 9)) ?_
  refine Rc (bn (r := .int .i64 ((hn2 : Nat) : Int)) (Od.lc (Φ := IsV (.int .i64 ((n : Nat) : Int))) 4 101) Od.con (hr := fun w => by have hx9 := HHN.out; have hx8 := HHW.out; go_simp)) ?_
  refine Rc (cl (en Tryz.func41) rfl rfl (by kernel_rfl) (by kernel_rfl) fun v a w2 hE hd hf => by
    have e0 : (IsNe (.loop true (⟨#[120]⟩) (fr) (up) (.num (0)))) (a.eval (.tmp 100)) w2 := ((Od.lc (Φ := IsNe (.loop true (⟨#[120]⟩) (fr) (up) (.num (0)))) 3 100) : Od _ _ _ _ _ _ _ _).out v a w2 hE hd hf
    have e1 : (IsV (.int .i64 ((hn2 : Nat) : Int))) (a.eval (.tmp 102)) w2 := ((Od.lc (Φ := IsV (.int .i64 ((hn2 : Nat) : Int))) 5 102) : Od _ _ _ _ _ _ _ _).out v a w2 hE hd hf
    simp only [List.map_toArray, List.map_cons, List.map_nil]
    rw [(e1 : a.eval (.tmp 102) = _)]
    exact alone_f (s0 := hn2) (res := .ok ⟨fr + ((hn2 : Nat) : Int), up + 1, false⟩) (left := 0) e0 (by have h9 := HHB.out; have h8 := HB.out; omega) (wf_loop (by have h9 := HB.out; omega) (fun i i1 i2 => wf_num (by decide))) (ev_open M0 _ _ fr up n hn2 (by have h9 := HB.out; omega) (by have h9 := HHB.out; omega))) ?_
  refine Rc (alB al_Out (Nat.le_refl _)) ?_
  exact RgAll.nil
 intro v X15 e1 hΦ _
 obtain ⟨g19, hv7, hg19, Bn⟩ := hΦ 7 (by decide)
 obtain ⟨u, hu⟩ : ∃ u, v 6 = u := ⟨_, rfl⟩
 have hO : (IsOut (.ok ⟨fr + ((hn2 : Nat) : Int), up + 1, false⟩) (0) [] []) u X15 := by rw [← hu]; exact hΦ 6 (by decide)
 simp only [layL, Act.put, uAx, u0x, u1x, Nat.reduceAdd]
 rw [hv7, hu]
 clear hΦ hv7 hu
 refine stL (fun K hK => ?_)
 refine stOut Bn hO (fun _ _ _ h => h) (fun _ _ _ h => h) (fun X16 O19 O => hK _ _ ?_)
 have e2 := O.ext e1 hg19
 replace E := E.trans e2
 replace B12 := B12.ext e2
 replace hx12 := IsNe.stb _ _ _ _ e2 hx12
 replace O13 := O13.ext e2
 replace O14 := O14.ext e2
 replace O15 := O15.ext e2
 replace O16 := O16.ext e2
 replace O17 := O17.ext e2
 replace O18 := O18.ext e2
 clear hK K O e1 e2 Bn hO
 refine wpList_nil ?_
 go_upto_region 16 with (fail)
 refine rgs 41 [some 104, some 105, some 106, some 107, some 108, some 109, some 110, some 111, some 112, some 113, some 114, some 115, some 116, some 117, some 118, some 119, some 120, some 121, some 122, some 123, some 124, some 125, some 126, some 127, some 128, some 129, some 130, some 131, some 132, some 133, some 134, some 135, some 136, some 137, some 138, some 139, some 140, some 141, some 142, some 143, some 144] [IsV (.pointer (some ⟨g13, 0, none⟩)), IsVv (.ok ⟨at_ - fr, at_ - fr, true⟩), IsV (.int .i64 at_), IsV (.int .i64 fr), IsV (.int .i64 (at_ - fr)), IsV (.int .i64 at_), IsV (.int .i64 fr), IsV (.int .i64 (at_ - fr)), IsV (.bool true), IsV (.bool false), IsV (.bool false), IsV (.pointer (some ⟨g13, 12, none⟩)), IsV (.int .i64 ((0 : Nat) : Int)), IsV (.bool false), IsV (.bool false), IsV (.bool false), IsV (.pointer (some ⟨g14, 0, none⟩)), IsVv (.ok ⟨at_, at_, true⟩), IsV (.int .i64 at_), IsV (.int .i64 at_), IsV (.bool true), IsV (.bool false), IsV (.bool false), IsV (.bool false), IsV (.pointer (some ⟨g14, 12, none⟩)), IsV (.int .i64 ((m : Nat) : Int)), IsV (.int .i64 up), IsV (.int .i64 at_), IsV (.int .i64 ((m : Nat) : Int)), IsV (.bool false), IsV (.bool false), IsV (.bool false), IsV (.pointer (some ⟨g15, 0, none⟩)), IsVv (.ok ⟨up + 1, up + 1, true⟩), IsV (.int .i64 up), IsV (.int .i64 (up + 1)), IsV (.int .i64 up), IsV (.int .i64 (up + 1)), IsV (.bool true), IsV (.bool false), IsV (.bool false)] [] ?_ ?_ (hst := by repeat' (first | exact trivial | exact IsV.stb _ | apply IsIf.stb | exact IsNe.stb _ | exact IsVv.stb _ | exact IsOut.stb _ _ _ _ | exact IsNb.stb _ _ | fail | apply And.intro))
 ·refine Rc (fa (fa_Out0 g13) (Od.lit 13)) ?_
  refine Rc (ldVv O13 (Od.lc (Φ := IsV (.pointer (some ⟨g13, 0, none⟩))) 0 104)) ?_
  refine Rc (mv (Od.lit (x := .int .i64 at_) 11)) ?_
  refine Rc (mv (Od.lit (x := .int .i64 fr) 8)) ?_
  refine Rc (bn (r := .int .i64 (at_ - fr)) (Od.lc (Φ := IsV (.int .i64 at_)) 2 106) (Od.lc (Φ := IsV (.int .i64 fr)) 3 107) (hr := fun w => by have hx9 := HAF.out; go_simp)) ?_
  refine Rc (mv (Od.lit (x := .int .i64 at_) 11)) ?_
  refine Rc (mv (Od.lit (x := .int .i64 fr) 8)) ?_
  refine Rc (bn (r := .int .i64 (at_ - fr)) (Od.lc (Φ := IsV (.int .i64 at_)) 5 109) (Od.lc (Φ := IsV (.int .i64 fr)) 6 110) (hr := fun w => by have hx9 := HAF.out; go_simp)) ?_
  refine Rc (cl (en Tryz.func38) rfl rfl (by kernel_rfl) (by kernel_rfl) fun v a w2 hE hd hf => by
    have e0 : (IsVv (.ok ⟨at_ - fr, at_ - fr, true⟩)) (a.eval (.tmp 105)) w2 := ((Od.lc (Φ := IsVv (.ok ⟨at_ - fr, at_ - fr, true⟩)) 1 105) : Od _ _ _ _ _ _ _ _).out v a w2 hE hd hf
    have e1 : (IsV (.int .i64 (at_ - fr))) (a.eval (.tmp 108)) w2 := ((Od.lc (Φ := IsV (.int .i64 (at_ - fr))) 4 108) : Od _ _ _ _ _ _ _ _).out v a w2 hE hd hf
    have e2 : (IsV (.int .i64 (at_ - fr))) (a.eval (.tmp 111)) w2 := ((Od.lc (Φ := IsV (.int .i64 (at_ - fr))) 7 111) : Od _ _ _ _ _ _ _ _).out v a w2 hE hd hf
    simp only [List.map_toArray, List.map_cons, List.map_nil]
    rw [(e1 : a.eval (.tmp 108) = _), (e2 : a.eval (.tmp 111) = _)]
    exact is_v e0 (by have h9 := HB.out; omega) (by have h9 := HB.out; omega)) ?_
  refine Rc (un (r := .bool false) (Od.lc (Φ := IsV (.bool true)) 8 112) (by rfl) (hr := fun w => by go_simp)) ?_
  refine Rc (mv (Od.lc (Φ := IsV (.bool false)) 9 113)) ?_
  refine RcG 10 114 false (fa (fa_Out2 g13) (Od.lit 13)) ?_
  refine RcG 10 114 false (ldLeft O13 (Od.lc (Φ := IsV (.pointer (some ⟨g13, 12, none⟩))) 11 115)) ?_
  refine RcG 10 114 false (bn (r := .bool false) (Od.lc (Φ := IsV (.int .i64 ((0 : Nat) : Int))) 12 116) Od.con (hr := fun w => by go_simp)) ?_
  refine Rc (pk (Od.lc (Φ := IsV (.bool false)) 10 114) (Od.lc (Φ := IsV (.bool false)) 13 117)) ?_
  refine Rc (mv (Od.lc (Φ := IsV (.bool false)) 14 118)) ?_
  refine RcG 15 119 false (fa (fa_Out0 g14) (Od.lit 14)) ?_
  refine RcG 15 119 false (ldVv O14 (Od.lc (Φ := IsV (.pointer (some ⟨g14, 0, none⟩))) 16 120)) ?_
  refine RcG 15 119 false (mv (Od.lit (x := .int .i64 at_) 11)) ?_
  refine RcG 15 119 false (mv (Od.lit (x := .int .i64 at_) 11)) ?_
  refine RcG 15 119 false (cl (en Tryz.func38) rfl rfl (by kernel_rfl) (by kernel_rfl) fun v a w2 hE hd hf => by
    have e0 : (IsVv (.ok ⟨at_, at_, true⟩)) (a.eval (.tmp 121)) w2 := ((Od.lc (Φ := IsVv (.ok ⟨at_, at_, true⟩)) 17 121) : Od _ _ _ _ _ _ _ _).out v a w2 hE hd hf
    have e1 : (IsV (.int .i64 at_)) (a.eval (.tmp 122)) w2 := ((Od.lc (Φ := IsV (.int .i64 at_)) 18 122) : Od _ _ _ _ _ _ _ _).out v a w2 hE hd hf
    have e2 : (IsV (.int .i64 at_)) (a.eval (.tmp 123)) w2 := ((Od.lc (Φ := IsV (.int .i64 at_)) 19 123) : Od _ _ _ _ _ _ _ _).out v a w2 hE hd hf
    simp only [List.map_toArray, List.map_cons, List.map_nil]
    rw [(e1 : a.eval (.tmp 122) = _), (e2 : a.eval (.tmp 123) = _)]
    exact is_v e0 (by have h9 := HB.out; omega) (by have h9 := HB.out; omega)) ?_
  refine RcG 15 119 false (un (r := .bool false) (Od.lc (Φ := IsV (.bool true)) 20 124) (by rfl) (hr := fun w => by go_simp)) ?_
  refine Rc (pk (Od.lc (Φ := IsV (.bool false)) 15 119) (Od.lc (Φ := IsV (.bool false)) 21 125)) ?_
  refine Rc (mv (Od.lc (Φ := IsV (.bool false)) 22 126)) ?_
  refine RcG 23 127 false (fa (fa_Out2 g14) (Od.lit 14)) ?_
  refine RcG 23 127 false (ldLeft O14 (Od.lc (Φ := IsV (.pointer (some ⟨g14, 12, none⟩))) 24 128)) ?_
  refine RcG 23 127 false (mv (Od.lit (x := .int .i64 up) 10)) ?_
  refine RcG 23 127 false (mv (Od.lit (x := .int .i64 at_) 11)) ?_
  refine RcG 23 127 false (bn (r := .int .i64 ((m : Nat) : Int)) (Od.lc (Φ := IsV (.int .i64 up)) 26 130) (Od.lc (Φ := IsV (.int .i64 at_)) 27 131) (hr := fun w => by have hx9 := HUM.out; go_simp)) ?_
  refine RcG 23 127 false (bn (r := .bool false) (Od.lc (Φ := IsV (.int .i64 ((m : Nat) : Int))) 25 129) (Od.lc (Φ := IsV (.int .i64 ((m : Nat) : Int))) 28 132) (hr := fun w => by go_simp)) ?_
  refine Rc (pk (Od.lc (Φ := IsV (.bool false)) 23 127) (Od.lc (Φ := IsV (.bool false)) 29 133)) ?_
  refine Rc (mv (Od.lc (Φ := IsV (.bool false)) 30 134)) ?_
  refine RcG 31 135 false (fa (fa_Out0 g15) (Od.lit 15)) ?_
  refine RcG 31 135 false (ldVv O15 (Od.lc (Φ := IsV (.pointer (some ⟨g15, 0, none⟩))) 32 136)) ?_
  refine RcG 31 135 false (mv (Od.lit (x := .int .i64 up) 10)) ?_
  refine RcG 31 135 false (bn (r := .int .i64 (up + 1)) (Od.lc (Φ := IsV (.int .i64 up)) 34 138) Od.con (hr := fun w => by have hx9 := HU1.out; go_simp)) ?_
  refine RcG 31 135 false (mv (Od.lit (x := .int .i64 up) 10)) ?_
  refine RcG 31 135 false (bn (r := .int .i64 (up + 1)) (Od.lc (Φ := IsV (.int .i64 up)) 36 140) Od.con (hr := fun w => by have hx9 := HU1.out; go_simp)) ?_
  refine RcG 31 135 false (cl (en Tryz.func38) rfl rfl (by kernel_rfl) (by kernel_rfl) fun v a w2 hE hd hf => by
    have e0 : (IsVv (.ok ⟨up + 1, up + 1, true⟩)) (a.eval (.tmp 137)) w2 := ((Od.lc (Φ := IsVv (.ok ⟨up + 1, up + 1, true⟩)) 33 137) : Od _ _ _ _ _ _ _ _).out v a w2 hE hd hf
    have e1 : (IsV (.int .i64 (up + 1))) (a.eval (.tmp 139)) w2 := ((Od.lc (Φ := IsV (.int .i64 (up + 1))) 35 139) : Od _ _ _ _ _ _ _ _).out v a w2 hE hd hf
    have e2 : (IsV (.int .i64 (up + 1))) (a.eval (.tmp 141)) w2 := ((Od.lc (Φ := IsV (.int .i64 (up + 1))) 37 141) : Od _ _ _ _ _ _ _ _).out v a w2 hE hd hf
    simp only [List.map_toArray, List.map_cons, List.map_nil]
    rw [(e1 : a.eval (.tmp 139) = _), (e2 : a.eval (.tmp 141) = _)]
    exact is_v e0 (by have h9 := HB.out; omega) (by have h9 := HB.out; omega)) ?_
  refine RcG 31 135 false (un (r := .bool false) (Od.lc (Φ := IsV (.bool true)) 38 142) (by rfl) (hr := fun w => by go_simp)) ?_
  refine Rc (pk (Od.lc (Φ := IsV (.bool false)) 31 135) (Od.lc (Φ := IsV (.bool false)) 39 143)) ?_
  exact RgAll.nil
 intro v X17 e1 hΦ _
 simp only [layL, Act.put, uAx, u0x, u1x, Nat.reduceAdd]
 rw [show v 40 = .bool false from hΦ 40 (by decide)]
 clear hΦ
 replace E := E.trans e1
 replace B12 := B12.ext e1
 replace hx12 := IsNe.stb _ _ _ _ e1 hx12
 replace O13 := O13.ext e1
 replace O14 := O14.ext e1
 replace O15 := O15.ext e1
 replace O16 := O16.ext e1
 replace O17 := O17.ext e1
 replace O18 := O18.ext e1
 replace O19 := O19.ext e1
 clear e1
 refine wpList_nil ?_
 go_upto_region 18 with (fail)
 refine rgs 46 [some 145, some 146, some 147, some 148, some 149, some 150, some 151, some 152, some 153, some 154, some 155, some 156, some 157, some 158, some 159, some 160, some 161, some 162, some 163, some 164, some 165, some 166, some 167, some 168, some 169, some 170, some 171, some 172, some 173, some 174, some 175, some 176, some 177, some 178, some 179, some 180, some 181, some 182, some 183, some 184, some 185, some 186, some 187, some 188, some 189, some 6] [IsV (.bool true), IsV (.bool true), IsV (.pointer (some ⟨g16, 0, none⟩)), IsVv (.ok ⟨((kk : Nat) : Int), ((kk : Nat) : Int), true⟩), IsV (.int .u8 ((k : Nat) : Int)), IsV (.int .u8 ((kk : Nat) : Int)), IsV (.int .i64 ((kk : Nat) : Int)), IsV (.int .u8 ((k : Nat) : Int)), IsV (.int .u8 ((kk : Nat) : Int)), IsV (.int .i64 ((kk : Nat) : Int)), IsV (.bool true), IsV (.bool true), IsV (.bool true), IsV (.pointer (some ⟨g16, 12, none⟩)), IsV (.int .i64 ((199 - kk : Nat) : Int)), IsV (.int .u8 ((k : Nat) : Int)), IsV (.int .u8 ((kk : Nat) : Int)), IsV (.int .i64 ((kk : Nat) : Int)), IsV (.int .i64 ((199 - kk : Nat) : Int)), IsV (.bool true), IsV (.bool true), IsV (.bool true), IsV (.pointer (some ⟨g17, 0, none⟩)), IsVv (.ok ⟨9, 9, true⟩), IsV (.bool true), IsV (.bool true), IsV (.bool true), IsV (.pointer (some ⟨g18, 0, none⟩)), IsVv (.ok ⟨((hn2 : Nat) : Int), ((n : Nat) : Int), false⟩), IsV (.int .i64 ((n : Nat) : Int)), IsV (.int .i64 ((hn2 : Nat) : Int)), IsV (.int .i64 ((n : Nat) : Int)), IsV (.bool true), IsV (.bool true), IsV (.bool true), IsV (.pointer (some ⟨g19, 0, none⟩)), IsVv (.ok ⟨fr + ((hn2 : Nat) : Int), up + 1, false⟩), IsV (.int .i64 fr), IsV (.int .i64 ((n : Nat) : Int)), IsV (.int .i64 ((hn2 : Nat) : Int)), IsV (.int .i64 (fr + ((hn2 : Nat) : Int))), IsV (.int .i64 up), IsV (.int .i64 (up + 1)), IsV (.bool true), IsV (.bool true), IsV (.bool true)] [] ?_ ?_ (hst := by repeat' (first | exact trivial | exact IsV.stb _ | apply IsIf.stb | exact IsNe.stb _ | exact IsVv.stb _ | exact IsOut.stb _ _ _ _ | exact IsNb.stb _ _ | fail | apply And.intro))
 ·refine Rc (mv (Od.lit (x := .bool true) 7)) ?_
  refine Rc (mv (Od.lc (Φ := IsV (.bool true)) 0 145)) ?_
  refine RcG 1 146 true (fa (fa_Out0 g16) (Od.lit 16)) ?_
  refine RcG 1 146 true (ldVv O16 (Od.lc (Φ := IsV (.pointer (some ⟨g16, 0, none⟩))) 2 147)) ?_
  refine RcG 1 146 true (mv (Od.lit (x := .int .u8 ((k : Nat) : Int)) 2)) ?_
  refine RcG 1 146 true (bn (r := .int .u8 ((kk : Nat) : Int)) (Od.lc (Φ := IsV (.int .u8 ((k : Nat) : Int))) 4 149) Od.con (hr := fun w => by have hx9 := HKK.out; go_simp)) ?_
  refine RcG 1 146 true (cvx (S := 5) (T := 2) (r := .int .i64 ((kk : Nat) : Int)) (Od.lc (Φ := IsV (.int .u8 ((kk : Nat) : Int))) 5 150) (hr := fun w => by have hx9 := HKW.out; go_simp)) ?_
  refine RcG 1 146 true (mv (Od.lit (x := .int .u8 ((k : Nat) : Int)) 2)) ?_
  refine RcG 1 146 true (bn (r := .int .u8 ((kk : Nat) : Int)) (Od.lc (Φ := IsV (.int .u8 ((k : Nat) : Int))) 7 152) Od.con (hr := fun w => by have hx9 := HKK.out; go_simp)) ?_
  refine RcG 1 146 true (cvx (S := 5) (T := 2) (r := .int .i64 ((kk : Nat) : Int)) (Od.lc (Φ := IsV (.int .u8 ((kk : Nat) : Int))) 8 153) (hr := fun w => by have hx9 := HKW.out; go_simp)) ?_
  refine RcG 1 146 true (cl (en Tryz.func38) rfl rfl (by kernel_rfl) (by kernel_rfl) fun v a w2 hE hd hf => by
    have e0 : (IsVv (.ok ⟨((kk : Nat) : Int), ((kk : Nat) : Int), true⟩)) (a.eval (.tmp 148)) w2 := ((Od.lc (Φ := IsVv (.ok ⟨((kk : Nat) : Int), ((kk : Nat) : Int), true⟩)) 3 148) : Od _ _ _ _ _ _ _ _).out v a w2 hE hd hf
    have e1 : (IsV (.int .i64 ((kk : Nat) : Int))) (a.eval (.tmp 151)) w2 := ((Od.lc (Φ := IsV (.int .i64 ((kk : Nat) : Int))) 6 151) : Od _ _ _ _ _ _ _ _).out v a w2 hE hd hf
    have e2 : (IsV (.int .i64 ((kk : Nat) : Int))) (a.eval (.tmp 154)) w2 := ((Od.lc (Φ := IsV (.int .i64 ((kk : Nat) : Int))) 9 154) : Od _ _ _ _ _ _ _ _).out v a w2 hE hd hf
    simp only [List.map_toArray, List.map_cons, List.map_nil]
    rw [(e1 : a.eval (.tmp 151) = _), (e2 : a.eval (.tmp 154) = _)]
    exact is_v e0 (by have h9 := HKL.out; omega) (by have h9 := HKL.out; omega)) ?_
  refine Rc (pk (Od.lc (Φ := IsV (.bool true)) 1 146) (Od.lc (Φ := IsV (.bool true)) 10 155)) ?_
  refine Rc (mv (Od.lc (Φ := IsV (.bool true)) 11 156)) ?_
  refine RcG 12 157 true (fa (fa_Out2 g16) (Od.lit 16)) ?_
  refine RcG 12 157 true (ldLeft O16 (Od.lc (Φ := IsV (.pointer (some ⟨g16, 12, none⟩))) 13 158)) ?_
  refine RcG 12 157 true (mv (Od.lit (x := .int .u8 ((k : Nat) : Int)) 2)) ?_
  refine RcG 12 157 true (bn (r := .int .u8 ((kk : Nat) : Int)) (Od.lc (Φ := IsV (.int .u8 ((k : Nat) : Int))) 15 160) Od.con (hr := fun w => by have hx9 := HKK.out; go_simp)) ?_
  refine RcG 12 157 true (cvx (S := 5) (T := 3) (r := .int .i64 ((kk : Nat) : Int)) (Od.lc (Φ := IsV (.int .u8 ((kk : Nat) : Int))) 16 161) (hr := fun w => by have hx9 := HKW.out; go_simp)) ?_
  refine RcG 12 157 true (bn (r := .int .i64 ((199 - kk : Nat) : Int)) Od.con (Od.lc (Φ := IsV (.int .i64 ((kk : Nat) : Int))) 17 162) (hr := fun w => by have hx9 := HK9.out; go_simp)) ?_
  refine RcG 12 157 true (bn (r := .bool true) (Od.lc (Φ := IsV (.int .i64 ((199 - kk : Nat) : Int))) 14 159) (Od.lc (Φ := IsV (.int .i64 ((199 - kk : Nat) : Int))) 18 163) (hr := fun w => by go_simp)) ?_
  refine Rc (pk (Od.lc (Φ := IsV (.bool true)) 12 157) (Od.lc (Φ := IsV (.bool true)) 19 164)) ?_
  refine Rc (mv (Od.lc (Φ := IsV (.bool true)) 20 165)) ?_
  refine RcG 21 166 true (fa (fa_Out0 g17) (Od.lit 17)) ?_
  refine RcG 21 166 true (ldVv O17 (Od.lc (Φ := IsV (.pointer (some ⟨g17, 0, none⟩))) 22 167)) ?_
  refine RcG 21 166 true (cl (en Tryz.func38) rfl rfl (by kernel_rfl) (by kernel_rfl) fun v a w2 hE hd hf => by
    have e0 : (IsVv (.ok ⟨9, 9, true⟩)) (a.eval (.tmp 168)) w2 := ((Od.lc (Φ := IsVv (.ok ⟨9, 9, true⟩)) 23 168) : Od _ _ _ _ _ _ _ _).out v a w2 hE hd hf
    simp only [List.map_toArray, List.map_cons, List.map_nil]
    exact is_v e0 (by decide) (by decide)) ?_
  refine Rc (pk (Od.lc (Φ := IsV (.bool true)) 21 166) (Od.lc (Φ := IsV (.bool true)) 24 169)) ?_
  refine Rc (mv (Od.lc (Φ := IsV (.bool true)) 25 170)) ?_
  refine RcG 26 171 true (fa (fa_Out0 g18) (Od.lit 18)) ?_
  refine RcG 26 171 true (ldVv O18 (Od.lc (Φ := IsV (.pointer (some ⟨g18, 0, none⟩))) 27 172)) ?_
  refine RcG 26 171 true (mv (Od.lit (x := .int .i64 ((n : Nat) : Int)) 9)) ?_
  refine RcG 26 171 true (bn (r := .int .i64 ((hn2 : Nat) : Int)) (Od.lc (Φ := IsV (.int .i64 ((n : Nat) : Int))) 29 174) Od.con (hr := fun w => by have hx9 := HHN.out; have hx8 := HHW.out; go_simp)) ?_
  refine RcG 26 171 true (mv (Od.lit (x := .int .i64 ((n : Nat) : Int)) 9)) ?_
  refine RcG 26 171 true (cl (en Tryz.func38) rfl rfl (by kernel_rfl) (by kernel_rfl) fun v a w2 hE hd hf => by
    have e0 : (IsVv (.ok ⟨((hn2 : Nat) : Int), ((n : Nat) : Int), false⟩)) (a.eval (.tmp 173)) w2 := ((Od.lc (Φ := IsVv (.ok ⟨((hn2 : Nat) : Int), ((n : Nat) : Int), false⟩)) 28 173) : Od _ _ _ _ _ _ _ _).out v a w2 hE hd hf
    have e1 : (IsV (.int .i64 ((hn2 : Nat) : Int))) (a.eval (.tmp 175)) w2 := ((Od.lc (Φ := IsV (.int .i64 ((hn2 : Nat) : Int))) 30 175) : Od _ _ _ _ _ _ _ _).out v a w2 hE hd hf
    have e2 : (IsV (.int .i64 ((n : Nat) : Int))) (a.eval (.tmp 176)) w2 := ((Od.lc (Φ := IsV (.int .i64 ((n : Nat) : Int))) 31 176) : Od _ _ _ _ _ _ _ _).out v a w2 hE hd hf
    simp only [List.map_toArray, List.map_cons, List.map_nil]
    rw [(e1 : a.eval (.tmp 175) = _), (e2 : a.eval (.tmp 176) = _)]
    exact is_v e0 (by have h9 := HB.out; have h8 := HHB.out; omega) (by have h9 := HB.out; have h8 := HHB.out; omega)) ?_
  refine Rc (pk (Od.lc (Φ := IsV (.bool true)) 26 171) (Od.lc (Φ := IsV (.bool true)) 32 177)) ?_
  refine Rc (mv (Od.lc (Φ := IsV (.bool true)) 33 178)) ?_
  refine RcG 34 179 true (fa (fa_Out0 g19) (Od.lit 19)) ?_
  refine RcG 34 179 true (ldVv O19 (Od.lc (Φ := IsV (.pointer (some ⟨g19, 0, none⟩))) 35 180)) ?_
  refine RcG 34 179 true (mv (Od.lit (x := .int .i64 fr) 8)) ?_
  refine RcG 34 179 true (mv (Od.lit (x := .int .i64 ((n : Nat) : Int)) 9)) ?_
  refine RcG 34 179 true (bn (r := .int .i64 ((hn2 : Nat) : Int)) (Od.lc (Φ := IsV (.int .i64 ((n : Nat) : Int))) 38 183) Od.con (hr := fun w => by have hx9 := HHN.out; have hx8 := HHW.out; go_simp)) ?_
  refine RcG 34 179 true (bn (r := .int .i64 (fr + ((hn2 : Nat) : Int))) (Od.lc (Φ := IsV (.int .i64 fr)) 37 182) (Od.lc (Φ := IsV (.int .i64 ((hn2 : Nat) : Int))) 39 184) (hr := fun w => by have hx9 := HFH.out; go_simp)) ?_
  refine RcG 34 179 true (mv (Od.lit (x := .int .i64 up) 10)) ?_
  refine RcG 34 179 true (bn (r := .int .i64 (up + 1)) (Od.lc (Φ := IsV (.int .i64 up)) 41 186) Od.con (hr := fun w => by have hx9 := HU1.out; go_simp)) ?_
  refine RcG 34 179 true (cl (en Tryz.func38) rfl rfl (by kernel_rfl) (by kernel_rfl) fun v a w2 hE hd hf => by
    have e0 : (IsVv (.ok ⟨fr + ((hn2 : Nat) : Int), up + 1, false⟩)) (a.eval (.tmp 181)) w2 := ((Od.lc (Φ := IsVv (.ok ⟨fr + ((hn2 : Nat) : Int), up + 1, false⟩)) 36 181) : Od _ _ _ _ _ _ _ _).out v a w2 hE hd hf
    have e1 : (IsV (.int .i64 (fr + ((hn2 : Nat) : Int)))) (a.eval (.tmp 185)) w2 := ((Od.lc (Φ := IsV (.int .i64 (fr + ((hn2 : Nat) : Int)))) 40 185) : Od _ _ _ _ _ _ _ _).out v a w2 hE hd hf
    have e2 : (IsV (.int .i64 (up + 1))) (a.eval (.tmp 187)) w2 := ((Od.lc (Φ := IsV (.int .i64 (up + 1))) 42 187) : Od _ _ _ _ _ _ _ _).out v a w2 hE hd hf
    simp only [List.map_toArray, List.map_cons, List.map_nil]
    rw [(e1 : a.eval (.tmp 185) = _), (e2 : a.eval (.tmp 187) = _)]
    exact is_v e0 (by have h9 := HB.out; have h8 := HHB.out; omega) (by have h9 := HB.out; have h8 := HHB.out; omega)) ?_
  refine Rc (pk (Od.lc (Φ := IsV (.bool true)) 34 179) (Od.lc (Φ := IsV (.bool true)) 43 188)) ?_
  refine Rc (mv (Od.lc (Φ := IsV (.bool true)) 44 189)) ?_
  exact RgAll.nil
 intro v X18 e1 hΦ _
 simp only [layL, Act.put, uAx, u0x, u1x, Nat.reduceAdd]
 rw [show v 45 = .bool true from hΦ 45 (by decide)]
 clear hΦ
 replace E := E.trans e1
 replace B12 := B12.ext e1
 replace hx12 := IsNe.stb _ _ _ _ e1 hx12
 replace O13 := O13.ext e1
 replace O14 := O14.ext e1
 replace O15 := O15.ext e1
 replace O16 := O16.ext e1
 replace O17 := O17.ext e1
 replace O18 := O18.ext e1
 replace O19 := O19.ext e1
 clear e1
 refine wpList_nil ?_
 go_wp2_with fail
 go_ret
 exact ⟨_, rfl, E, rfl⟩
end Go.Proofs.YtkeikfekkdplgaaGreatDoor
