/-
 Package eval: Eval.
-/
import Derived.Test.YtkeikfekkdplgaaGreatDoorEv14
namespace Go.Proofs.YtkeikfekkdplgaaGreatDoor
open Go Go.RowKit Go.Maps
/-- Block g alone may change: from z to u. -/
structure RS (g : Nat) (z u : List Value) (w w' : World) : Prop where
 ob : Ob g w w'
 k : Bk w g z ∨ Bk w g u → Bk w' g z ∨ Bk w' g u
 s : Bk w g u → Bk w' g u
theorem RS.trans {g : Nat} {z u : List Value} {a b c : World} (x : RS g z u a b) (y : RS g z u b c) : RS g z u a c := ⟨x.ob.trans y.ob, fun h => y.k (x.k h), fun h => y.s (x.s h)⟩
theorem RS.of {g : Nat} {z u : List Value} {a b : World} (e : Ext a b) : RS g z u a b := ⟨Ob.of e, fun h => h.imp (fun x => x.ext e) (fun x => x.ext e), fun h => h.ext e⟩
section
variable {P : Program} {ops : Array Oper} {Q : Exit → Act → World → Prop} {ds : List (Option Tmp)} {a0 : Act} {w0 : World} {L : List (Value → World → Prop)} {boxes : List Nat} {i k : Nat} {o : Oper} {os : List Oper}
theorem RxS {g q : Nat} {z u : List Value} {os : List Oper} (h : ∀ w, RS g z u w0 w → Ok P ops Q ds a0 w L [] i o) (hs : RgAllx P ops Q (RS g z u) ds a0 w0 L (i + 1) q os) (hg : o.guard = none := by rfl) : RgAllx P ops Q (RS g z u) ds a0 w0 L i (q + 1) (o :: os) :=
 RgAllx.cons (RgLx.ofOk RS.of h hg) hs
theorem stS {g q T m : Nat} {z u : List Value} {x y : Operand} {os : List Oper} (hk : Bk w0 g z ∨ Bk w0 g u) (hT : StV P T m) (hz : z.length = m) (hu : u.length = m) (nz : ∀ v ∈ z, NoWord v) (nu : ∀ v ∈ u, NoWord v) (hone : u.all (fun u => u.oneCell') = true) (hx : ∀ w, Od ops ds a0 w L i x (IsV (.pointer (some ⟨g, 0, none⟩)))) (hy : ∀ w, Od ops ds a0 w L i y (IsV (.agg u.toArray)))
  (hs : RgAllx P ops Q (RS g z u) ds a0 w0 L (i + 1) q os) (ho : o.op = .store T x y := by rfl) (hL : L.getD i (fun _ _ => True) = (fun _ w => Bk w g u) := by kernel_rfl) (hg : o.guard = none := by rfl) : RgAllx P ops Q (RS g z u) ds a0 w0 L i (q + 1) (o :: os) := by
 refine RgAllx.cons (RgLx.mk hg fun v a w hR hdd hf K hK => ?_) hs
 have h1 : a.eval x = _ := (hx w).out v a w (Ext.refl w) hdd hf
 have h2 : a.eval y = _ := (hy w).out v a w (Ext.refl w) hdd hf
 have key : (Instr.storeAt T (.pointer (some ⟨g, 0, none⟩)) (.agg u.toArray)).run P w = .ok () (setL w g 0 u) ∧ OnlyB g w (setL w g 0 u) ∧ Bk (setL w g 0 u) g u := by
  rcases hR.k hk with B | B
  ·exact ⟨hT w g z u hz hu hone B, B.putO (by omega) nz⟩
  ·exact ⟨hT w g u u hu hu hone B, B.putO rfl nu⟩
 obtain ⟨hr, O, B⟩ := key
 refine st_wp ho h1 h2 hr ?_
 exact hK.out undef _ ⟨Ob.only O, fun _ => .inr B, fun _ => B⟩ (by rw [hL]; exact B)
end
/-- A value of eleven cells, with other hypotheses laid in. -/
theorem IsVl.cells {r : Res Kn} {x : Value} {w : World} (h : IsVl r (.slice none 0 0) x w) : ∃ ul : List Value, x = .agg ul.toArray ∧ ul.length = 11 ∧ (∀ v ∈ ul, NoWord v) ∧ ul.all (fun u => u.oneCell') = true ∧ (∃ y, ul[9]? = some y ∧ NoWord y) ∧
  (∀ hy, NoWord hy → hy.oneCell' = true → (∀ v ∈ ul.set 9 hy, NoWord v) ∧ (ul.set 9 hy).all (fun u => u.oneCell') = true ∧ ∀ w', Gr w w' → IsVl r hy (.agg (ul.set 9 hy).toArray) w') := by
 cases r with
 | error n =>
  refine ⟨_, h, rfl, nwVl, rfl, ⟨_, rfl, NoWord.slice _ _ _⟩, fun hy h1 h2 => ⟨?_, by { simp only [u1x, u0x, List.all_cons, h2]; rfl }, fun w' e => rfl⟩⟩
  intro v hv
  simp only [u1x, u0x, List.mem_cons, List.not_mem_nil, or_false] at hv
  rcases hv with rfl | rfl | rfl | rfl | rfl | rfl | rfl | rfl | rfl | rfl | rfl
  all_goals first | exact h1 | exact NoWord.bool _ | exact NoWord.slice _ _ _ | exact NoWord.int64 _
 | ok q =>
  obtain ⟨s1, a1, n1, c1, s2, a2, n2, c2, s3, a3, n3, c3, s4, a4, n4, c4, h, g1, g2⟩ := h
  refine ⟨_, h, rfl, nwVl, rfl, ⟨_, rfl, NoWord.slice _ _ _⟩, fun hy h1 h2 => ⟨?_, by { simp only [u1x, u0x, List.all_cons, h2]; rfl }, fun w' e => ⟨_, _, _, _, _, _, _, _, _, _, _, _, _, _, _, _, rfl, IsRat.gstb _ _ _ _ _ e g1, IsRat.gstb _ _ _ _ _ e g2⟩⟩⟩
  intro v hv
  simp only [u1x, u0x, List.mem_cons, List.not_mem_nil, or_false] at hv
  rcases hv with rfl | rfl | rfl | rfl | rfl | rfl | rfl | rfl | rfl | rfl | rfl
  all_goals first | exact h1 | exact NoWord.bool _ | exact NoWord.slice _ _ _ | exact NoWord.int64 _
theorem len11 {us : List Value} (hl : us.length = 11) : ∃ u0 u1 u2 u3 u4 u5 u6 u7 u8 u9 u10, us = [u0, u1, u2, u3, u4, u5, u6, u7, u8, u9, u10] := by
 match us, hl with
 | [u0, u1, u2, u3, u4, u5, u6, u7, u8, u9, u10], _ => exact ⟨_, _, _, _, _, _, _, _, _, _, _, rfl⟩
theorem Rm.extAll {h : Nat} {b w w' : World} (R : Rm h w w') (e : Ext b w) (hb : b.heap.size ≤ h) : Ext b w' :=
 ⟨R.os.trans e.os, R.tape.trans e.tape, R.output.trans e.output, Nat.le_trans e.size R.size, fun k hk => (R.block k (Nat.lt_of_lt_of_le hk e.size) (.inl (by omega))).trans (e.block k hk)⟩
theorem al_Vl (w : World) : (Instr.alloc 50 true (.tuple #[])).run Tryz.prog w = .ok (.pointer (some ⟨w.heap.size, 0, none⟩)) (w.alloc (.cells zVl.toArray 50)) := by unfold zVl; go_simp
theorem fa_Mc5 (g : Nat) (w : World) : (Instr.fieldAt 154 (.pointer (some ⟨g, 0, none⟩)) 5).run Tryz.prog w = .ok (.pointer (some ⟨g, 5, none⟩)) w := by go_simp
theorem fa_Mc6 (g : Nat) (w : World) : (Instr.fieldAt 154 (.pointer (some ⟨g, 0, none⟩)) 6).run Tryz.prog w = .ok (.pointer (some ⟨g, 6, none⟩)) w := by go_simp
theorem fa_Vl2 (g : Nat) (w : World) : (Instr.fieldAt 50 (.pointer (some ⟨g, 0, none⟩)) 2).run Tryz.prog w = .ok (.pointer (some ⟨g, 9, none⟩)) w := by go_simp
theorem ld_mi : LdC1 Tryz.prog 152 := fun w a v h => by go_simp
theorem ld_ms : LdC1 Tryz.prog 151 := fun w a v h => by go_simp
theorem st_ai (a : Option Addr) (n c : Nat) : StC1 Tryz.prog 41 (.slice a n c) := fun w p v h2 h3 => by go_simp
theorem nwZ : ∀ v ∈ zVl, NoWord v := nwVl

set_option maxRecDepth 100000 in
set_option maxHeartbeats 8000000 in
theorem Eval_f {w : World} {us : List Value} {sa ca va ga : Option Addr} {sn sc cn cc vn vc gn gc : Nat} {s0 : Nat} {res : Res Kn} {left : Nat} {rd : List ByteArray} {hy : List Int} (hl : us.length = 8) (hs : s0 ≤ 100000)
  (HC : Hid (∀ (h : Nat) (w' : World), w.heap.size ≤ h → Ext w w' → MAt ⟨h, .slice ca cn cc, .slice va vn vc, .slice sa sn sc, .slice ga gn gc⟩ s0 w' → JJ h ([], []) w' → h + 3 ≤ w'.heap.size →
   Calls Tryz.prog 84 #[.pointer (some ⟨h + 2, 0, none⟩), .agg us.toArray, .slice none 0 0] w' (EvP ⟨h, .slice ca cn cc, .slice va vn vc, .slice sa sn sc, .slice ga gn gc⟩ (JJ h) w' (res, (left, (rd, hy)))))) :
  Calls Tryz.prog 48 #[.agg us.toArray, .slice ca cn cc, .slice va vn vc, .agg #[.slice sa sn sc], .slice ga gn gc, .int .i64 ((s0 : Nat) : Int)] w (fun e w' => Ext w w' ∧ ∃ v rv hv, e = .returned (.tuple #[v, rv, .int .i64 ((left : Nat) : Int)]) ∧ IsVl res hv v w' ∧ IsRI w.heap.size hy hv w' ∧ IsRS w.heap.size rd rv w') := by
 obtain ⟨u0, u1, u2, u3, u4, u5, u6, u7, rfl⟩ := len8 hl
 clear hl
 have hmm := @run_makeMap Tryz.prog
 obtain ⟨W, hW, E, B6, B9, B12⟩ : ∃ W, W = ((w.alloc (.cells #[u0, u1, u2, u3, u4, u5, u6, u7] 31)).alloc (.cells #[.slice sa sn sc] 39)).alloc (.cells #[.bool false, .slice none 0 0, .bool false, .slice none 0 0, .bool false, .slice none 0 0, .bool false, .slice none 0 0, .bool false, .slice none 0 0, .int .i64 0] 50) ∧ Ext w W ∧ Bk W w.heap.size [u0, u1, u2, u3, u4, u5, u6, u7] ∧ Bk W (w.heap.size + 1) [.slice sa sn sc] ∧ Bk W (w.heap.size + 2) zVl :=
  ⟨_, rfl, (((Ext.refl w).alloc _).alloc _).alloc _, (Bk.new w _ _).ext (((Ext.refl _).alloc _).alloc _), (Bk.newE _ _ (by simp) _ _).ext ((Ext.refl _).alloc _), Bk.newE _ _ (by simp) _ _⟩
 have c9 := B9.c 0 _ rfl
 have hmx : max ((s0 : Nat) : Int) 0 = (s0 : Int) := by omega
 have hmn : min ((s0 : Nat) : Int) 100000 = (s0 : Int) := by omega
 go_enter Tryz.func48, Tryz.ntmps48
 go_upto_region 1 with (fail)
 rw [← hW]
 clear hW
 obtain ⟨X, hX, EX, MX, JX, hsz⟩ : ∃ X, X = ((W.alloc (.map #[] 0)).alloc (.map #[] 0)).alloc (.cells #[.slice ca cn cc, .slice va vn vc, .slice sa sn sc, .slice ga gn gc, .int .i64 ((s0 : Nat) : Int), .map (some W.heap.size), .map (some (W.heap.size + 1))] 154) ∧ Ext W X ∧ MAt ⟨W.heap.size, .slice ca cn cc, .slice va vn vc, .slice sa sn sc, .slice ga gn gc⟩ s0 X ∧ JJ W.heap.size ([], []) X ∧ W.heap.size + 3 ≤ X.heap.size :=
  ⟨_, rfl, (((Ext.refl W).alloc _).alloc _).alloc _, ⟨Bk.newE _ _ (by simp) _ _, hs⟩, JJ.made W _ _, by simp⟩
 have hwh := B12.lt
 go_upto_region 2 with (fail)
 rw [← hX, show W.heap.size + 1 + 1 = W.heap.size + 2 from rfl]
 clear hX hmm c9 hmx hmn
 obtain ⟨h, hh⟩ : ∃ h, W.heap.size = h := ⟨_, rfl⟩
 rw [hh] at MX JX hsz hwh ⊢
 clear hh
 replace E := E.trans EX
 replace B6 := B6.ext EX
 replace B12 := B12.ext EX
 clear EX B9
 refine rgs 2 [some 28, some 29] [IsV (.pointer (some ⟨h + 2, 0, none⟩)), IsV (.agg #[u0, u1, u2, u3, u4, u5, u6, u7])] [] ?_ ?_ (hst := by repeat' (first | exact trivial | exact IsV.stb _ | apply And.intro))
 ·refine Rc (mv (Od.lit 15)) ?_
  refine Rc (lvV B6 ld_Nd8 (Od.lit 6)) ?_
  exact RgAll.nil
 intro v X1 e1 hΦ _
 replace E := E.trans e1
 replace B12 := B12.ext e1
 replace MX := MX.ext e1
 replace JX := (JJ.inv h).ext JX e1 hsz
 replace hsz := Nat.le_trans hsz e1.size
 simp only [layL, Act.put, uAx, u0x, u1x, Nat.reduceAdd]
 rw [show v 0 = .pointer (some ⟨h + 2, 0, none⟩) from hΦ 0 (by decide), show v 1 = .agg #[u0, u1, u2, u3, u4, u5, u6, u7] from hΦ 1 (by decide)]
 clear hΦ e1 B6
 have hres := result_f (m := ⟨h, .slice ca cn cc, .slice va vn vc, .slice sa sn sc, .slice ga gn gc⟩) (us := [u0, u1, u2, u3, u4, u5, u6, u7]) (st := (s0, ([], []))) (r := (res, (left, (rd, hy)))) rfl (JJ.inv h) hsz MX JX (hid fun w' R M J hs' => HC.out h w' (by omega) (Rm.extAll R E (show w.heap.size ≤ h by omega)) M J (Nat.le_trans hsz hs'))
 refine stL (fun K hK => ?_)
 refine wp_callN (us := [.pointer (some ⟨h + 2, 0, none⟩), .agg #[u0, u1, u2, u3, u4, u5, u6, u7]]) (en Tryz.func66) (by kernel_rfl) hres (fun v2 X2 h => hK _ _ ?_) (fun ch X2 h => by { obtain ⟨_, _, _, _, hx, _⟩ := h; cases hx }) (fun X2 h => by { obtain ⟨_, _, _, _, hx, _⟩ := h; cases hx })
 obtain ⟨R, M2, J2, v3, hv3, hvl⟩ := h
 cases hv3
 replace E := R.extAll E (show w.heap.size ≤ h by omega)
 replace B12 := R.bk B12 (.inl (show w.heap.size + 2 < h by omega))
 have hsz2 := Nat.le_trans hsz R.size
 clear hres MX JX hsz R
 obtain ⟨ul, rfl, hul, nul, oul, ⟨y9, hy9, ny9⟩, hset⟩ := hvl.cells
 clear hvl hK K
 have GR := Gr.refl X2
 go_simp
 refine stL (fun K hK => ?_)
 refine wp_alB (vs := zVl) al_Vl (fun B16 e1 => hK _ _ ?_)
 replace E := E.trans e1
 replace GR := GR.trans e1.gr
 replace B12 := B12.ext e1
 replace M2 := M2.ext e1
 replace J2 := (JJ.inv h).ext J2 e1 hsz2
 obtain ⟨g16, hg16⟩ : ∃ g, X2.heap.size = g := ⟨_, rfl⟩
 rw [hg16] at B16 hsz2 ⊢
 generalize X2.alloc (.cells zVl.toArray 50) = X3 at E B12 M2 J2 B16 GR ⊢
 clear hK K e1 hg16
 go_simp
 refine stL (fun K hK => ?_)
 refine stVO (us := ul) B16 st_Vl rfl hul nwZ (fun X4 B16' O => hK _ _ ?_) (ho1 := oul)
 replace E := O.ext E (by omega)
 replace GR := GR.trans O.gr
 replace B12 := O.bk B12 (by omega)
 replace M2 : MAt _ left X4 := ⟨O.bk M2.bk (by simp only; omega), M2.fit⟩
 replace J2 := (JJ.inv h).only J2 O (by omega)
 have hsz4 : h + 3 ≤ X4.heap.size := by have := B16'.lt; omega
 clear B16 hK K O
 have B16 := B16'
 clear B16'
 refine wpList_nil ?_
 go_upto_region 3 with (fail)
 refine rgs 4 [some 31, some 32, some 33, some 34] [IsV (.pointer (some ⟨h + 2, 0, none⟩)), IsV (.pointer (some ⟨h + 2, 0, none⟩)), IsV (.pointer (some ⟨h + 2, 6, none⟩)), IsV (.map (some (h + 1)))] [] ?_ ?_ (hst := by repeat' (first | exact trivial | exact IsV.stb _ | apply And.intro))
 ·refine Rc (mv (Od.lit 15)) ?_
  refine Rc (nc (p := ⟨h + 2, 0, none⟩) (Od.lc 0 31)) ?_
  refine Rc (fa (fa_Mc6 (h + 2)) (Od.lc 1 32)) ?_
  refine Rc (lvC 6 M2.bk ld_mi (Od.lc 2 33)) ?_
  exact RgAll.nil
 intro v X5 e1 hΦ _
 replace E := E.trans e1
 replace GR := GR.trans e1.gr
 replace B12 := B12.ext e1
 replace B16 := B16.ext e1
 replace M2 := M2.ext e1
 replace J2 := (JJ.inv h).ext J2 e1 hsz4
 replace hsz4 := Nat.le_trans hsz4 e1.size
 simp only [layL, Act.put, uAx, u0x, u1x, Nat.reduceAdd]
 rw [show v 3 = .map (some (h + 1)) from hΦ 3 (by decide)]
 clear hΦ e1
 refine stL (fun K hK => ?_)
 refine wp_callN (us := [.map (some (h + 1))]) (en Tryz.func67) (by kernel_rfl) (sortedI_f J2.2.2.2) (fun v2 X6 h => hK _ _ ?_) (fun ch X6 h => by { obtain ⟨_, _, hx, _⟩ := h; cases hx }) (fun X6 h => by { obtain ⟨_, _, hx, _⟩ := h; cases hx })
 obtain ⟨e1, v3, hv3, hri, ha, hn, hc, hsl⟩ := h
 have hg16x := B16.lt
 have hwB : w.heap.size + 2 < X5.heap.size := by omega
 cases hv3
 replace E := E.trans e1
 replace GR := GR.trans e1.gr
 replace B12 := B12.ext e1
 replace M2 := M2.ext e1
 replace J2 := (JJ.inv h).ext J2 e1 hsz4
 replace hsz4 := Nat.le_trans hsz4 e1.size
 replace B16 := B16.ext e1
 subst hsl
 clear hK K e1
 go_simp
 refine wpList_step fun K hK => ?_; go_simp; refine hK _ _ ?_; clear hK K
 refine stL (fun K hK => ?_)
 refine stCO 9 B16 (st_ai ha hn hc) hy9 ny9 (fun X7 B16' O => hK _ _ ?_)
 replace E := O.ext E (by omega)
 replace GR := GR.trans O.gr
 replace B12 := O.bk B12 (by omega)
 replace M2 : MAt ⟨h, .slice ca cn cc, .slice va vn vc, .slice sa sn sc, .slice ga gn gc⟩ left X7 := ⟨O.bk M2.bk (show h + 2 ≠ g16 by omega), M2.fit⟩
 replace J2 := (JJ.inv h).only J2 O (by omega)
 replace hsz4 : h + 3 ≤ X7.heap.size := by rw [O.size]; exact hsz4
 obtain ⟨nu9, ou9, hvl9⟩ := hset (.slice ha hn hc) (NoWord.slice _ _ _) rfl
 replace hri := hri.ob (Ob.only O) hg16x
 clear hK K
 have hul9 : (ul.set 9 (.slice ha hn hc)).length = 11 := by rw [List.length_set]; exact hul
 generalize ul.set 9 (.slice ha hn hc) = vl at B16' nu9 ou9 hvl9 hul9
 clear B16 hset nul oul hy9 ny9 hul O
 have B16 := B16'
 clear B16'
 refine wpList_nil ?_
 go_upto_region 4 with (fail)
 have hg12 : w.heap.size + 2 < X7.heap.size := B12.lt
 have ngm : h + 2 ≠ w.heap.size + 2 := by omega
 have ng16 : g16 ≠ w.heap.size + 2 := by omega
 refine wp_region_rgx (RS (w.heap.size + 2) zVl vl) 13 [some 37, some 38, some 39, some 40, some 41, some 42, some 43, some 44, some 45, some 46, none, some 13, some 14] [IsV (.agg vl.toArray), IsV (.pointer (some ⟨h + 2, 0, none⟩)), IsV (.pointer (some ⟨h + 2, 0, none⟩)), IsV (.pointer (some ⟨h + 2, 5, none⟩)), IsV (.map (some h)), IsRS X7.heap.size rd, IsV (.pointer (some ⟨h + 2, 0, none⟩)), IsV (.pointer (some ⟨h + 2, 0, none⟩)), IsV (.pointer (some ⟨h + 2, 4, none⟩)), IsV (.int .i64 ((left : Nat) : Int)), (fun _ w' => Bk w' (w.heap.size + 2) vl), IsRS X7.heap.size rd, IsV (.int .i64 ((left : Nat) : Int))] (by kernel_rfl) (by kernel_rfl) (by kernel_rfl) (by kernel_rfl) (by kernel_rfl) (by kernel_rfl) RS.trans RS.of ?_ ?_ ?_
 ·exact ⟨fun _ _ _ _ h => h, fun _ _ _ _ h => h, fun _ _ _ _ h => h, fun _ _ _ _ h => h, fun _ _ _ _ h => h, fun _ _ _ q h => h.ob q.ob hg12, fun _ _ _ _ h => h, fun _ _ _ _ h => h, fun _ _ _ _ h => h, fun _ _ _ _ h => h, fun _ _ _ q h => q.s h, fun _ _ _ q h => h.ob q.ob hg12, fun _ _ _ _ h => h, trivial⟩
 ·refine RxS (fun w' q => lvV (q.ob.bk B16 ng16) ld_Vl (Od.lit 16) hul9) ?_
  refine RxS (fun w' q => mv (Od.lit 15)) ?_
  refine RxS (fun w' q => nc (p := ⟨h + 2, 0, none⟩) (Od.lc 1 38)) ?_
  refine RxS (fun w' q => fa (fa_Mc5 (h + 2)) (Od.lc 2 39)) ?_
  refine RxS (fun w' q => lvC 5 (q.ob.bk M2.bk ngm) ld_ms (Od.lc 3 40)) ?_
  refine RxS (fun w' q => cl1 (en Tryz.func68) (Od.lc (Φ := IsV (.map (some h))) 4 41) (fun x0 w2 hE d0 => by
   obtain rfl : x0 = .map (some h) := d0
   exact Calls.mono (sortedS_f ((JJ.inv h).ext (J2.ob q.ob (by omega) (by omega)) hE (Nat.le_trans hsz4 q.ob.size)).2.2.1) fun e w3 hq => by
    obtain ⟨e3, v3, q1, q2⟩ := hq
    exact ⟨v3, q1, e3, q2.mono (Nat.le_trans q.ob.size hE.size)⟩)) ?_
  refine RxS (fun w' q => mv (Od.lit 15)) ?_
  refine RxS (fun w' q => nc (p := ⟨h + 2, 0, none⟩) (Od.lc 6 43)) ?_
  refine RxS (fun w' q => fa (fa_Mc4 (h + 2)) (Od.lc 7 44)) ?_
  refine RxS (fun w' q => lvC 4 (q.ob.bk M2.bk ngm) ld_i (Od.lc 8 45)) ?_
  refine stS (.inl B12) st_Vl rfl hul9 nwZ nu9 ou9 (fun w' => Od.lit 12) (fun w' => Od.lc 0 37) ?_
  refine RxS (fun w' q => mv (Od.lc 5 42)) ?_
  refine RxS (fun w' q => mv (Od.lc 9 46)) ?_
  exact RgAllx.nil
 intro v X8 q hΦ
 have B9 : Bk X8 (w.heap.size + 2) vl := hΦ 10 (by decide)
 have hrs : IsRS X7.heap.size rd (v 11) X8 := hΦ 11 (by decide)
 obtain ⟨rv, hrv⟩ : ∃ rv, v 11 = rv := ⟨_, rfl⟩
 rw [hrv] at hrs
 simp only [layL, Act.put, uAx, u0x, u1x, Nat.reduceAdd]
 rw [hrv, show v 12 = .int .i64 ((left : Nat) : Int) from hΦ 12 (by decide)]
 clear hrv hΦ
 refine wpAny_done (by kernel_rfl) ?_ _
 have E8 := q.ob.ext E (by omega)
 have hvl8 := hvl9 X8 (GR.trans q.ob.gr)
 replace hri := hri.ob q.ob hwB
 have hwm : w.heap.size ≤ X5.heap.size := by omega
 have hwn : w.heap.size ≤ X7.heap.size := by omega
 clear B16 B12 M2 J2 hvl9 nu9 ou9 GR
 obtain ⟨l0, l1, l2, l3, l4, l5, l6, l7, l8, l9, l10, rfl⟩ := len11 hul9
 have d0 : World.cell? X8 ⟨w.heap.size + 1 + 1, 0, none⟩ = some l0 := B9.c 0 _ rfl; have d1 : World.cell? X8 ⟨w.heap.size + 1 + 1, 1, none⟩ = some l1 := B9.c 1 _ rfl; have d2 : World.cell? X8 ⟨w.heap.size + 1 + 1, 2, none⟩ = some l2 := B9.c 2 _ rfl; have d3 : World.cell? X8 ⟨w.heap.size + 1 + 1, 3, none⟩ = some l3 := B9.c 3 _ rfl
 have d4 : World.cell? X8 ⟨w.heap.size + 1 + 1, 4, none⟩ = some l4 := B9.c 4 _ rfl; have d5 : World.cell? X8 ⟨w.heap.size + 1 + 1, 5, none⟩ = some l5 := B9.c 5 _ rfl; have d6 : World.cell? X8 ⟨w.heap.size + 1 + 1, 6, none⟩ = some l6 := B9.c 6 _ rfl; have d7 : World.cell? X8 ⟨w.heap.size + 1 + 1, 7, none⟩ = some l7 := B9.c 7 _ rfl
 have d8 : World.cell? X8 ⟨w.heap.size + 1 + 1, 8, none⟩ = some l8 := B9.c 8 _ rfl; have d9 : World.cell? X8 ⟨w.heap.size + 1 + 1, 9, none⟩ = some l9 := B9.c 9 _ rfl; have d10 : World.cell? X8 ⟨w.heap.size + 1 + 1, 10, none⟩ = some l10 := B9.c 10 _ rfl
 clear B9 q
 go_wp2_with fail
 exact bodyPost_ret (v := .tuple #[.agg #[l0, l1, l2, l3, l4, l5, l6, l7, l8, l9, l10], rv, .int .i64 ((left : Nat) : Int)]) (by simp [results, Tryz.results48, d0, d1, d2, d3, d4, d5, d6, d7, d8, d9, d10, go_sem]) rfl ⟨E8, .agg #[l0, l1, l2, l3, l4, l5, l6, l7, l8, l9, l10], rv, rfl, .slice ha hn hc, hvl8, hri.mono hwm, hrs.mono hwn⟩
end Go.Proofs.YtkeikfekkdplgaaGreatDoor
