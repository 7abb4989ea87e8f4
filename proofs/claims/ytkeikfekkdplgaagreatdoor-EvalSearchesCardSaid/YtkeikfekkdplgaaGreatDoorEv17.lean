/-
 The law's helpers: run, alone, is. (Printed by wip/gen/ev17.py.)
-/
import Derived.Test.YtkeikfekkdplgaaGreatDoorEv16
namespace Go.Proofs.YtkeikfekkdplgaaGreatDoor
open Go Go.RowKit Go.Maps
theorem IsRI.shape {B : Nat} {l : List Int} {v : Value} {w : World} (h : IsRI B l v w) : ∃ a n c, v = .slice a n c := by
 cases l with
 | nil => exact ⟨_, _, _, h⟩
 | cons x t => obtain ⟨g, c, h1, _⟩ := h; exact ⟨_, _, _, h1⟩
theorem IsRS.shape {B : Nat} {l : List ByteArray} {v : Value} {w : World} (h : IsRS B l v w) : ∃ a n c, v = .slice a n c := by
 cases l with
 | nil => exact ⟨_, _, _, h⟩
 | cons x t => obtain ⟨g, c, h1, _⟩ := h; exact ⟨_, _, _, h1⟩
theorem IsVl.list {r : Res Kn} {a : Option Addr} {n c : Nat} {x : Value} {w : World} (h : IsVl r (.slice a n c) x w) : ∃ vl : List Value, x = .agg vl.toArray ∧ vl.length = 11 ∧ vl.all (fun u => u.oneCell') = true ∧ (∀ v ∈ vl, NoWord v) := by
 cases r with
 | error n => exact ⟨_, h, rfl, rfl, nwVl⟩
 | ok q =>
  obtain ⟨s1, a1, n1, c1, s2, a2, n2, c2, s3, a3, n3, c3, s4, a4, n4, c4, h, _⟩ := h
  exact ⟨_, h, rfl, rfl, nwVl⟩
/-- What the law's run hands back: a value, the names read, the steps left. -/
def IsOut (res : Res Kn) (left : Nat) (rd : List ByteArray) (hy : List Int) : Value → World → Prop := fun x w => ∃ (vl : List Value) (ha : Option Addr) (hn hc : Nat) (ra : Option Addr) (rn rc : Nat), x = .agg (vl ++ [Value.slice ra rn rc, Value.int .i64 ((left : Nat) : Int)]).toArray ∧ vl.length = 11 ∧ vl.all (fun u => u.oneCell') = true ∧ (∀ v ∈ vl, NoWord v) ∧
 IsVl res (.slice ha hn hc) (.agg vl.toArray) w ∧ IsRI 0 hy (.slice ha hn hc) w ∧ IsRS 0 rd (.slice ra rn rc) w
theorem IsOut.stb (res : Res Kn) (left : Nat) (rd : List ByteArray) (hy : List Int) : Stb (IsOut res left rd hy) := fun _ _ _ e ⟨vl, ha, hn, hc, ra, rn, rc, h1, h2, h3, h4, h5, h6, h7⟩ => ⟨vl, ha, hn, hc, ra, rn, rc, h1, h2, h3, h4, IsVl.stb _ _ _ _ _ e h5, h6.ext e, h7.ext e⟩
/-- What eval does at a machine that is yet to be made. -/
def EvH (w : World) (us : List Value) (ca va sa ga : Option Addr) (cn cc vn vc sn sc gn gc s0 : Nat) (res : Res Kn) (left : Nat) (rd : List ByteArray) (hy : List Int) : Prop :=
 ∀ (h : Nat) (w' : World), w.heap.size ≤ h → Ext w w' → MAt ⟨h, .slice ca cn cc, .slice va vn vc, .slice sa sn sc, .slice ga gn gc⟩ s0 w' → JJ h ([], []) w' → h + 3 ≤ w'.heap.size →
  Calls Tryz.prog 84 #[.pointer (some ⟨h + 2, 0, none⟩), .agg us.toArray, .slice none 0 0] w' (EvP ⟨h, .slice ca cn cc, .slice va vn vc, .slice sa sn sc, .slice ga gn gc⟩ (JJ h) w' (res, (left, (rd, hy))))
theorem EvH.ext {w w1 : World} {us : List Value} {ca va sa ga : Option Addr} {cn cc vn vc sn sc gn gc s0 : Nat} {res : Res Kn} {left : Nat} {rd : List ByteArray} {hy : List Int} (H : EvH w us ca va sa ga cn cc vn vc sn sc gn gc s0 res left rd hy) (e : Ext w w1) : EvH w1 us ca va sa ga cn cc vn vc sn sc gn gc s0 res left rd hy :=
 fun h w' h1 h2 h3 h4 h5 => H h w' (Nat.le_trans e.size h1) (e.trans h2) h3 h4 h5
def zOut : List Value := [.bool false, .slice none 0 0, .bool false, .slice none 0 0, .bool false, .slice none 0 0, .bool false, .slice none 0 0, .bool false, .slice none 0 0, .int .i64 0, .slice none 0 0, .int .i64 0]
theorem nwOut {s1 s2 s3 s4 : Bool} {a1 a2 a3 a4 a5 a6 : Option Addr} {n1 n2 n3 n4 n5 c1 c2 c3 c4 c5 n6 c6 : Nat} {f : Bool} {e i : Int} : ∀ v ∈ [Value.bool s1, .slice a1 n1 c1, .bool s2, .slice a2 n2 c2, .bool s3, .slice a3 n3 c3, .bool s4, .slice a4 n4 c4, .bool f, .slice a5 n5 c5, .int .i64 e, .slice a6 n6 c6, .int .i64 i], NoWord v := by
 intro v hv
 simp only [List.mem_cons, List.not_mem_nil, or_false] at hv
 rcases hv with rfl | rfl | rfl | rfl | rfl | rfl | rfl | rfl | rfl | rfl | rfl | rfl | rfl
 all_goals first | exact NoWord.bool _ | exact NoWord.slice _ _ _ | exact NoWord.int64 _
set_option maxRecDepth 100000
theorem st_Out : StV Tryz.prog 53 13 := by
 intro w g vs us h1 h2 hs B
 match vs, h1 with
 | [v0, v1, v2, v3, v4, v5, v6, v7, v8, v9, v10, v11, v12], _ =>
  match us, h2 with
  | [u0, u1, u2, u3, u4, u5, u6, u7, u8, u9, u10, u11, u12], _ =>
   simp only [List.all_cons, List.all_nil, Bool.and_true, Bool.and_eq_true] at hs
   obtain ⟨s0, s1, s2, s3, s4, s5, s6, s7, s8, s9, s10, s11, s12⟩ := hs
   have r0 := fun w a m => run_store Tryz.prog w a u0 m s0
   have r1 := fun w a m => run_store Tryz.prog w a u1 m s1
   have r2 := fun w a m => run_store Tryz.prog w a u2 m s2
   have r3 := fun w a m => run_store Tryz.prog w a u3 m s3
   have r4 := fun w a m => run_store Tryz.prog w a u4 m s4
   have r5 := fun w a m => run_store Tryz.prog w a u5 m s5
   have r6 := fun w a m => run_store Tryz.prog w a u6 m s6
   have r7 := fun w a m => run_store Tryz.prog w a u7 m s7
   have r8 := fun w a m => run_store Tryz.prog w a u8 m s8
   have r9 := fun w a m => run_store Tryz.prog w a u9 m s9
   have r10 := fun w a m => run_store Tryz.prog w a u10 m s10
   have r11 := fun w a m => run_store Tryz.prog w a u11 m s11
   have r12 := fun w a m => run_store Tryz.prog w a u12 m s12
   have c0 := B.c 0 _ rfl; have c1 := B.c 1 _ rfl; have c2 := B.c 2 _ rfl; have c3 := B.c 3 _ rfl; have c4 := B.c 4 _ rfl; have c5 := B.c 5 _ rfl; have c6 := B.c 6 _ rfl; have c7 := B.c 7 _ rfl; have c8 := B.c 8 _ rfl; have c9 := B.c 9 _ rfl; have c10 := B.c 10 _ rfl; have c11 := B.c 11 _ rfl; have c12 := B.c 12 _ rfl
   have f0 := B.f 0; have f1 := B.f 1; have f2 := B.f 2; have f3 := B.f 3; have f4 := B.f 4; have f5 := B.f 5; have f6 := B.f 6; have f7 := B.f 7; have f8 := B.f 8; have f9 := B.f 9; have f10 := B.f 10; have f11 := B.f 11; have f12 := B.f 12
   clear B s0 s1 s2 s3 s4 s5 s6 s7 s8 s9 s10 s11 s12
   simp only [setL]
   go_simp
theorem ld_Sh : LdV Tryz.prog 39 1 := by
 intro w g vs h1 B
 match vs, h1 with
 | [v0], _ =>
  have c0 := B.c 0 _ rfl
  clear B
  go_simp
theorem al_Out (w : World) : (Instr.alloc 53 true (.tuple #[])).run Tryz.prog w = .ok (.pointer (some ⟨w.heap.size, 0, none⟩)) (w.alloc (.cells zOut.toArray 53)) := by unfold zOut; go_simp
set_option maxRecDepth 100000 in
set_option maxHeartbeats 8000000 in
theorem run_f {w : World} {us : List Value} {ca va sa ga : Option Addr} {cn cc vn vc sn sc gn gc s0 : Nat} {res : Res Kn} {left : Nat} {rd : List ByteArray} {hy : List Int} (hl : us.length = 8) (hs : s0 ≤ 100000) (HC : EvH w us ca va sa ga cn cc vn vc sn sc gn gc s0 res left rd hy) :
  Calls Tryz.prog 16 #[.agg us.toArray, .slice ca cn cc, .slice va vn vc, .agg #[.slice sa sn sc], .slice ga gn gc, .int .i64 ((s0 : Nat) : Int)] w (Ret w (IsOut res left rd hy)) := by
 have HC := hid HC
 have hl0 := hl
 obtain ⟨u0, u1, u2, u3, u4, u5, u6, u7, rfl⟩ := len8 hl
 clear hl
 obtain ⟨W, hW, E, B6, B9, B12⟩ : ∃ W, W = ((w.alloc (.cells #[u0, u1, u2, u3, u4, u5, u6, u7] 31)).alloc (.cells #[.slice sa sn sc] 39)).alloc (.cells #[.bool false, .slice none 0 0, .bool false, .slice none 0 0, .bool false, .slice none 0 0, .bool false, .slice none 0 0, .bool false, .slice none 0 0, .int .i64 0, .slice none 0 0, .int .i64 0] 53) ∧ Ext w W ∧ Bk W w.heap.size [u0, u1, u2, u3, u4, u5, u6, u7] ∧ Bk W (w.heap.size + 1) [.slice sa sn sc] ∧ Bk W (w.heap.size + 2) zOut :=
  ⟨_, rfl, (((Ext.refl w).alloc _).alloc _).alloc _, (Bk.new w _ _).ext (((Ext.refl _).alloc _).alloc _), (Bk.newE _ _ (by simp) _ _).ext ((Ext.refl _).alloc _), Bk.newE _ _ (by simp) _ _⟩
 go_enter Tryz.func16, Tryz.ntmps16
 go_upto_region 1 with (fail)
 rw [← hW]
 clear hW
 refine rgs 6 [some 17, some 18, some 19, some 20, some 21, some 22] [IsV (.agg #[u0, u1, u2, u3, u4, u5, u6, u7]), IsV (.slice ca cn cc), IsV (.slice va vn vc), IsV (.agg #[.slice sa sn sc]), IsV (.slice ga gn gc), IsV (.int .i64 ((s0 : Nat) : Int))] [] ?_ ?_ (hst := by repeat' (first | exact trivial | exact IsV.stb _ | apply And.intro))
 ·refine Rc (lvV B6 ld_Nd8 (Od.lit 6)) ?_
  refine Rc (mv (Od.lit 1)) ?_
  refine Rc (mv (Od.lit 2)) ?_
  refine Rc (lvV B9 ld_Sh (Od.lit 9)) ?_
  refine Rc (mv (Od.lit 4)) ?_
  refine Rc (mv (Od.lit 5)) ?_
  exact RgAll.nil
 intro v X1 e1 hΦ _
 replace E := E.trans e1
 replace B12 := B12.ext e1
 simp only [layL, Act.put, uAx, u0x, u1x, Nat.reduceAdd]
 rw [show v 0 = .agg #[u0, u1, u2, u3, u4, u5, u6, u7] from hΦ 0 (by decide), show v 1 = .slice ca cn cc from hΦ 1 (by decide), show v 2 = .slice va vn vc from hΦ 2 (by decide), show v 3 = .agg #[.slice sa sn sc] from hΦ 3 (by decide), show v 4 = .slice ga gn gc from hΦ 4 (by decide), show v 5 = .int .i64 ((s0 : Nat) : Int) from hΦ 5 (by decide)]
 clear hΦ e1 B6 B9
 refine stL (fun K hK => ?_)
 refine wp_callN (us := [.agg #[u0, u1, u2, u3, u4, u5, u6, u7], .slice ca cn cc, .slice va vn vc, .agg #[.slice sa sn sc], .slice ga gn gc, .int .i64 ((s0 : Nat) : Int)]) (en Tryz.func48) (by kernel_rfl) (Eval_f (us := [u0, u1, u2, u3, u4, u5, u6, u7]) hl0 hs (hid (HC.out.ext E))) (fun v2 X2 h => hK _ _ ?_) (fun ch X2 h => by { obtain ⟨_, _, _, _, hx, _⟩ := h; cases hx }) (fun X2 h => by { obtain ⟨_, _, _, _, hx, _⟩ := h; cases hx })
 obtain ⟨e1, vv, rv, hv, hx, hvl, hri, hrs⟩ := h
 have hX1 := B12.lt
 cases hx
 obtain ⟨ha, hn, hc, rfl⟩ := hri.shape
 obtain ⟨ra, rn, rc, rfl⟩ := hrs.shape
 obtain ⟨vl, rfl, hvn, hone, hnw⟩ := hvl.list
 have hvn0 := hvn
 replace E := E.trans e1
 replace B12 := B12.ext e1
 clear hK K e1
 have hW2 := B12.lt
 obtain ⟨l0, l1, l2, l3, l4, l5, l6, l7, l8, l9, l10, rfl⟩ := len11 hvn
 clear hvn
 go_simp
 refine wpList_step fun K hK => ?_; go_simp; refine hK _ _ ?_; clear hK K
 refine wpList_step fun K hK => ?_; go_simp; refine hK _ _ ?_; clear hK K
 refine wpList_step fun K hK => ?_; go_simp; refine hK _ _ ?_; clear hK K
 refine wpList_step fun K hK => ?_; go_simp; refine hK _ _ ?_; clear hK K
 refine stL (fun K hK => ?_)
 refine wp_alB (vs := zVl) al_Vl (fun B13 e1 => hK _ _ ?_)
 replace E := E.trans e1
 replace B12 := B12.ext e1
 obtain ⟨g13, hg13⟩ : ∃ g, X2.heap.size = g := ⟨_, rfl⟩
 rw [hg13] at B13 hW2 ⊢
 generalize X2.alloc (.cells zVl.toArray 50) = X3 at E B12 e1 B13 ⊢
 clear hK K
 go_simp
 refine stL (fun K hK => ?_)
 refine stVO (us := [l0, l1, l2, l3, l4, l5, l6, l7, l8, l9, l10]) B13 st_Vl rfl rfl nwZ (fun X4 B14 O => hK _ _ ?_) (ho1 := hone)
 replace B12 := O.bk B12 (by omega)
 replace E := O.ext E (by omega)
 have e2 := O.ext e1 (by omega)
 replace hvl := IsVl.stb _ _ _ _ _ e2 hvl
 replace hri := hri.ext e2
 replace hrs := hrs.ext e2
 clear hK K O e1 e2 B13
 refine wpList_step fun K hK => ?_; go_simp; refine hK _ _ ?_; clear hK K
 refine wpList_step fun K hK => ?_; go_simp; refine hK _ _ ?_; clear hK K
 refine wpList_nil ?_
 go_upto_region 2 with (fail)
 refine rgs 4 [some 27, some 28, some 29, some 30] [IsV (.agg #[l0, l1, l2, l3, l4, l5, l6, l7, l8, l9, l10]), IsV (.slice ra rn rc), IsV (.int .i64 ((left : Nat) : Int)), IsV (.agg #[l0, l1, l2, l3, l4, l5, l6, l7, l8, l9, l10, .slice ra rn rc, .int .i64 ((left : Nat) : Int)])] [] ?_ ?_ (hst := by repeat' (first | exact trivial | exact IsV.stb _ | apply And.intro))
 ·refine Rc (lvV B14 ld_Vl (Od.lit 13)) ?_
  refine Rc (mv (Od.lit 14)) ?_
  refine Rc (mv (Od.lit 15)) ?_
  refine Rc (Ok.of (by kernel_rfl) fun v a w2 hE hd hf => by
   have e1 : a.eval (.tmp 27) = _ := (Od.lc (Φ := IsV (.agg #[l0, l1, l2, l3, l4, l5, l6, l7, l8, l9, l10])) 0 27 : Od _ _ _ _ _ _ _ _).out v a w2 hE hd hf
   have e2 : a.eval (.tmp 28) = _ := (Od.lc (Φ := IsV (.slice ra rn rc)) 1 28 : Od _ _ _ _ _ _ _ _).out v a w2 hE hd hf
   have e3 : a.eval (.tmp 29) = _ := (Od.lc (Φ := IsV (.int .i64 ((left : Nat) : Int))) 2 29 : Od _ _ _ _ _ _ _ _).out v a w2 hE hd hf
   have hr : (Instr.build 53 #[(0, .agg #[l0, l1, l2, l3, l4, l5, l6, l7, l8, l9, l10]), (1, .slice ra rn rc), (2, .int .i64 ((left : Nat) : Int))]).run Tryz.prog w2 = .ok (.agg #[l0, l1, l2, l3, l4, l5, l6, l7, l8, l9, l10, .slice ra rn rc, .int .i64 ((left : Nat) : Int)]) w2 := by go_simp
   exact ⟨_, bdG rfl (by simp only [List.map_toArray, List.map_cons, List.map_nil]; rw [e1, e2, e3]; exact hr), rfl⟩) ?_
  exact RgAll.nil
 intro v X5 e1 hΦ _
 replace E := E.trans e1
 replace B12 := B12.ext e1
 replace hvl := IsVl.stb _ _ _ _ _ e1 hvl
 replace hri := hri.ext e1
 replace hrs := hrs.ext e1
 simp only [layL, Act.put, uAx, u0x, u1x, Nat.reduceAdd]
 rw [show v 3 = .agg #[l0, l1, l2, l3, l4, l5, l6, l7, l8, l9, l10, .slice ra rn rc, .int .i64 ((left : Nat) : Int)] from hΦ 3 (by decide)]
 clear hΦ e1 B14
 refine stL (fun K hK => ?_)
 have hone2 : [l0, l1, l2, l3, l4, l5, l6, l7, l8, l9, l10, Value.slice ra rn rc, .int .i64 ((left : Nat) : Int)].all (fun u => u.oneCell') = true := by
  rw [show [l0, l1, l2, l3, l4, l5, l6, l7, l8, l9, l10, Value.slice ra rn rc, .int .i64 ((left : Nat) : Int)] = [l0, l1, l2, l3, l4, l5, l6, l7, l8, l9, l10] ++ [Value.slice ra rn rc, .int .i64 ((left : Nat) : Int)] from rfl, List.all_append, hone]; rfl
 refine stVO (us := [l0, l1, l2, l3, l4, l5, l6, l7, l8, l9, l10, .slice ra rn rc, .int .i64 ((left : Nat) : Int)]) B12 st_Out rfl rfl nwOut (fun X6 B9 O => hK _ _ ?_) (ho1 := hone2)
 replace E := O.ext E (by omega)
 have hvl6 := IsVl.gstb _ _ _ _ _ O.gr hvl
 have hri6 := (hri.ob (Ob.only O) hX1).mono (Nat.zero_le _)
 have hrs6 := (hrs.ob (Ob.only O) hX1).mono (Nat.zero_le _)
 refine wpList_nil ?_
 have d0 := B9.c 0 _ rfl; have d1 := B9.c 1 _ rfl; have d2 := B9.c 2 _ rfl; have d3 := B9.c 3 _ rfl; have d4 := B9.c 4 _ rfl; have d5 := B9.c 5 _ rfl; have d6 := B9.c 6 _ rfl; have d7 := B9.c 7 _ rfl; have d8 := B9.c 8 _ rfl; have d9 := B9.c 9 _ rfl; have d10 := B9.c 10 _ rfl; have d11 := B9.c 11 _ rfl; have d12 := B9.c 12 _ rfl
 clear hK K O B9
 go_wp2_with fail
 exact bodyPost_ret (v := .agg #[l0, l1, l2, l3, l4, l5, l6, l7, l8, l9, l10, .slice ra rn rc, .int .i64 ((left : Nat) : Int)]) (by simp [results, Tryz.results16, go_sem, d0, d1, d2, d3, d4, d5, d6, d7, d8, d9, d10, d11, d12]) rfl ⟨_, rfl, E, [l0, l1, l2, l3, l4, l5, l6, l7, l8, l9, l10], ha, hn, hc, ra, rn, rc, rfl, rfl, hone, hnw, hvl6, hri6, hrs6⟩
end Go.Proofs.YtkeikfekkdplgaaGreatDoor
