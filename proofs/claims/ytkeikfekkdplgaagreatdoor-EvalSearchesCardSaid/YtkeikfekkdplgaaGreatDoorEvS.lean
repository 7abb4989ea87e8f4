/-
 Package eval: result, which recovers an error.
 Package slices: Sort of at most one element. (Printed by wip/gen/evs.py.)
-/
import Derived.Test.YtkeikfekkdplgaaGreatDoorEv11
import Derived.Tactics
import Derived.Tactics2
import Derived.Defers
import Derived.Recover
import Derived.Laws.Pointers
namespace Go.Proofs.YtkeikfekkdplgaaGreatDoor
open Go Go.RowKit
def zVl : List Value := [.bool false, .slice none 0 0, .bool false, .slice none 0 0, .bool false, .slice none 0 0, .bool false, .slice none 0 0, .bool false, .slice none 0 0, .int .i64 0]
def eVl (n : Int) : List Value := [.bool false, .slice none 0 0, .bool false, .slice none 0 0, .bool false, .slice none 0 0, .bool false, .slice none 0 0, .bool true, .slice none 0 0, .int .i64 n]
set_option maxRecDepth 100000 in
theorem ta_f (n : Int) (w : World) : (Instr.typeAssert (.iface 172 (.agg #[.int .i64 n])) 20 172 true).run Tryz.prog w = .ok (.tuple #[.agg #[.int .i64 n], .bool true]) w := by
 first | rfl | go_simp
set_option maxRecDepth 100000 in
set_option maxHeartbeats 4000000 in
theorem catch_f (n : Int) (w : World) (g : Nat) (B : Bk w g zVl) : CallsD Tryz.prog 82 #[.pointer (some ⟨g, 0, none⟩)] (.panicking (pan n)) w fun e u' w' =>
  e = .returned (.tuple #[]) ∧ u' = .panicking [{ v := failV n, recovered := true }] ∧ ∃ W1, Ext w W1 ∧ w' = setL W1 g 0 (eVl n) ∧ Bk W1 g zVl := by
 refine callsD_of_wpS Tryz.func82 rfl fun c₀ cs hu => ?_
 apply wpS_seq
 apply wpS_region
 obtain ⟨W1, hW1, E1, c1⟩ : ∃ W1, W1 = w.alloc (.cells #[.int .i64 n] 172) ∧ Ext w W1 ∧ W1.cell? ⟨w.heap.size, 0, none⟩ = some (.int .i64 n) :=
  ⟨_, rfl, (Ext.refl w).alloc _, by simp⟩
 have hta := ta_f n
 have B1 := B.ext E1
 have k0 := B1.c 0 _ rfl; have k1 := B1.c 1 _ rfl; have k2 := B1.c 2 _ rfl; have k3 := B1.c 3 _ rfl; have k4 := B1.c 4 _ rfl; have k5 := B1.c 5 _ rfl; have k6 := B1.c 6 _ rfl; have k7 := B1.c 7 _ rfl; have k8 := B1.c 8 _ rfl; have k9 := B1.c 9 _ rfl; have k10 := B1.c 10 _ rfl
 have f0 := B1.f 0; have f1 := B1.f 1; have f2 := B1.f 2; have f3 := B1.f 3; have f4 := B1.f 4; have f5 := B1.f 5; have f6 := B1.f 6; have f7 := B1.f 7; have f8 := B1.f 8; have f9 := B1.f 9; have f10 := B1.f 10
 have hbd : ∀ w, (Instr.build 50 #[(1, .bool true), (3, .int .i64 n)]).run Tryz.prog w = .ok (.agg (eVl n).toArray) w := fun w => by unfold eVl; go_simp
 simp [wpOpsS, hta, go_sem, recoverD, hu, Tryz.ntmps82, Exit.thenS, pan, failV]
 rw [← hW1]
 apply wpS_seq
 apply wpS_region
 simp [wpOpsS, go_sem, Exit.thenS]
 refine wpS_cond (t := true) (by simp [Act.eval]) ?_
 simp only [if_true]
 apply wpS_region
 simp [wpOpsS, go_sem, c1, hbd, bodyPostS, results, Tryz.results82, k0, k1, k2, k3, k4, k5, k6, k7, k8, k9, k10, f0, f1, f2, f3, f4, f5, f6, f7, f8, f9, f10]
 exact ⟨W1, E1, rfl, B1⟩
set_option maxRecDepth 100000 in
theorem ta_n (w : World) : (Instr.typeAssert .nilIface 20 172 true).run Tryz.prog w = .ok (.tuple #[.agg #[.int .i64 0], .bool false]) w := by
 first | rfl | go_simp
set_option maxRecDepth 100000 in
set_option maxHeartbeats 4000000 in
theorem idle_f (w : World) (g : Nat) : CallsD Tryz.prog 82 #[.pointer (some ⟨g, 0, none⟩)] .returning w fun e u' w' => e = .returned (.tuple #[]) ∧ u' = .returning ∧ Ext w w' := by
 refine callsD_of_wpS Tryz.func82 rfl fun c₀ cs hu => ?_
 apply wpS_seq
 apply wpS_region
 obtain ⟨W1, hW1, E1⟩ : ∃ W1, W1 = w.alloc (.cells #[.int .i64 0] 172) ∧ Ext w W1 := ⟨_, rfl, (Ext.refl w).alloc _⟩
 have hta := ta_n
 simp [wpOpsS, hta, go_sem, recoverD, hu, Tryz.ntmps82, Exit.thenS]
 rw [← hW1]
 apply wpS_seq
 apply wpS_region
 simp [wpOpsS, go_sem, Exit.thenS]
 refine wpS_cond (t := false) (by simp [Act.eval]) ?_
 simp only [Bool.false_eq_true, if_false]
 refine wpS_of_wp (wp_skip ?_)
 cases c₀
 simp_all [bodyPostS, results, Tryz.results82]

theorem ld_Nd8 : LdV Tryz.prog 31 8 := fun w' g' vs' hl B => ld_Nd hl (fun j v hj => by rw [Nat.zero_add]; exact B.c j v hj)
theorem len8 {us : List Value} (hl : us.length = 8) : ∃ u0 u1 u2 u3 u4 u5 u6 u7, us = [u0, u1, u2, u3, u4, u5, u6, u7] := by
 match us, hl with
 | [u0, u1, u2, u3, u4, u5, u6, u7], _ => exact ⟨_, _, _, _, _, _, _, _, rfl⟩
set_option maxRecDepth 100000 in
set_option maxHeartbeats 4000000 in
theorem result_f {σ : Type} {m : Mc} {J : σ → World → Prop} {w : World} {st : Mst σ} {us : List Value} (hl : us.length = 8) (hJ : MapInv m.h J) (hh : m.h + 3 ≤ w.heap.size) (hM : MAt m st.1 w) (hj : J st.2 w) {r : Res Kn × Mst σ}
  (HC : Hid (∀ w', Rm m.h w w' → MAt m st.1 w' → J st.2 w' → w.heap.size ≤ w'.heap.size → Calls Tryz.prog 84 #[.pointer (some ⟨m.h + 2, 0, none⟩), .agg us.toArray, .slice none 0 0] w' (EvP m J w' r))) :
  Calls Tryz.prog 66 #[.pointer (some ⟨m.h + 2, 0, none⟩), .agg us.toArray] w (fun e w' => Rm m.h w w' ∧ MAt m r.2.1 w' ∧ J r.2.2 w' ∧ ∃ v, e = .returned v ∧ IsVl r.1 (.slice none 0 0) v w') := by
 obtain ⟨u0, u1, u2, u3, u4, u5, u6, u7, rfl⟩ := len8 hl
 clear hl
 have hmf : ∀ (fn : Fn) (first cap : Array Value) (w : World), (Instr.makeFunc fn first cap).run Tryz.prog w = .ok (.func fn first cap) w := fun _ _ _ _ => rfl
 obtain ⟨W, hW, E, B3, B4⟩ : ∃ W, W = (w.alloc (.cells #[u0, u1, u2, u3, u4, u5, u6, u7] 31)).alloc (.cells #[.bool false, .slice none 0 0, .bool false, .slice none 0 0, .bool false, .slice none 0 0, .bool false, .slice none 0 0, .bool false, .slice none 0 0, .int .i64 0] 50) ∧ Ext w W ∧ Bk W w.heap.size [u0, u1, u2, u3, u4, u5, u6, u7] ∧ Bk W (w.heap.size + 1) zVl :=
  ⟨_, rfl, ((Ext.refl w).alloc _).alloc _, (Bk.new w _ _).ext ((Ext.refl _).alloc _), Bk.newE _ _ (by simp) _ _⟩
 go_enter_defers Tryz.func66, Tryz.ntmps66
 go_upto_region 2 with (fail)
 rw [← hW]
 clear hW
 refine rgs 2 [some 6, some 7] [IsV (.pointer (some ⟨m.h + 2, 0, none⟩)), IsV (.agg #[u0, u1, u2, u3, u4, u5, u6, u7])] [] ?_ ?_ (hst := by repeat' (first | exact trivial | exact IsV.stb _ | apply And.intro))
 ·refine Rc (mv (Od.lit 0)) ?_
  refine Rc (lvV B3 ld_Nd8 (Od.lit 3)) ?_
  exact RgAll.nil
 intro v X1 e1 hΦ _
 replace E := E.trans e1
 replace B4 := B4.ext e1
 simp only [layL, Act.put, uAx, u0x, u1x, Nat.reduceAdd]
 rw [show v 0 = .pointer (some ⟨m.h + 2, 0, none⟩) from hΦ 0 (by decide), show v 1 = .agg #[u0, u1, u2, u3, u4, u5, u6, u7] from hΦ 1 (by decide)]
 clear hΦ e1 B3
 refine stL (fun K hK => ?_)
 refine wp_callN (us := [.pointer (some ⟨m.h + 2, 0, none⟩), .agg #[u0, u1, u2, u3, u4, u5, u6, u7], .slice none 0 0]) (en Tryz.func84) (by kernel_rfl) (HC.out _ (Rm.ext E) (hM.ext E) (hJ.ext hj E hh) E.size) (fun v2 X2 h => hK _ _ ?_) (fun ch X2 h => ?_) (fun X2 h => ?_)
 ·obtain ⟨hR, hMA, hJA, h⟩ := h
  obtain ⟨res, st2⟩ := r
  cases res with
  | error nn => cases h
  | ok q =>
   obtain ⟨v3, hv, hq⟩ := h
   cases hv
   have R := (Rm.ext E).trans hR
   have hs2 := R.size
   replace B4 := hR.bk B4 (by omega)
   clear hK K hR E
   go_simp
   refine stL (fun K hK => ?_)
   refine wp_call1 (en Tryz.func83) (by kernel_rfl) (value_f hq) (fun v4 X3 h => hK _ _ ?_) (fun ch X3 h => by obtain ⟨x, hx, _⟩ := h; cases hx) (fun X3 h => by obtain ⟨x, hx, _⟩ := h; cases hx)
   obtain ⟨v5, hv5, e3, s1, a1, n1, c1, s2, a2, n2, c2, s3, a3, n3, c3, s4, a4, n4, c4, hv6, g1, g2⟩ := h
   cases hv5
   subst hv6
   replace R := R.trans (Rm.ext e3)
   replace B4 := B4.ext e3
   replace hMA := hMA.ext e3
   replace hJA := hJ.ext hJA e3 (Nat.le_trans hh hs2)
   clear hK K e3
   go_simp
   refine stL (fun K hK => ?_)
   refine stVO (us := [.bool s1, .slice a1 n1 c1, .bool s2, .slice a2 n2 c2, .bool s3, .slice a3 n3 c3, .bool s4, .slice a4 n4 c4, .bool q.fin, .slice none 0 0, .int .i64 0]) B4 st_Vl rfl rfl nwVl (fun X4 B9 O => hK _ _ ?_)
   refine wpList_nil ?_
   replace g1 := IsRat.gstb _ _ _ _ _ O.gr g1
   replace g2 := IsRat.gstb _ _ _ _ _ O.gr g2
   have f1 := O.rm R (by omega)
   have f2 : MAt m st2.1 X4 := ⟨O.bk hMA.bk (by omega), hMA.fit⟩
   have f3 := hJ.only hJA O (by omega)
   clear hK K O R hMA hJA B4
   go_wp2_with fail
   refine leaves_cons (f := 82) (args := #[.pointer (some ⟨w.heap.size + 1, 0, none⟩)]) (by simp) (by simp [go_sem]) ?_
   refine (idle_f X4 (w.heap.size + 1)).mono ?_
   rintro e u' w'' ⟨rfl, rfl, e5⟩
   replace B9 := B9.ext e5
   have d0 := B9.c 0 _ rfl; have d1 := B9.c 1 _ rfl; have d2 := B9.c 2 _ rfl; have d3 := B9.c 3 _ rfl; have d4 := B9.c 4 _ rfl; have d5 := B9.c 5 _ rfl; have d6 := B9.c 6 _ rfl; have d7 := B9.c 7 _ rfl; have d8 := B9.c 8 _ rfl; have d9 := B9.c 9 _ rfl; have d10 := B9.c 10 _ rfl
   simp [Leaves, settle, results, Tryz.results66, go_sem, d0, d1, d2, d3, d4, d5, d6, d7, d8, d9, d10]
   exact ⟨f1.trans (Rm.ext e5), f2.ext e5, hJ.ext f3 e5 (Nat.le_trans hh f1.size), _, _, _, _, _, _, _, _, _, _, _, _, _, _, _, _, rfl, IsRat.gstb _ _ _ _ _ e5.gr g1, IsRat.gstb _ _ _ _ _ e5.gr g2⟩
 ·obtain ⟨hR, hMA, hJA, h⟩ := h
  obtain ⟨res, st2⟩ := r
  cases res with
  | ok q => obtain ⟨_, hv, _⟩ := h; cases hv
  | error nn =>
   cases h
   have R := (Rm.ext E).trans hR
   replace B4 := hR.bk B4 (by omega)
   show Leaves _ _ _ _ _ _ _
   refine leaves_cons (f := 82) (args := #[.pointer (some ⟨w.heap.size + 1, 0, none⟩)]) (by simp) (by simp [go_sem]) ?_
   refine (catch_f nn X2 (w.heap.size + 1) B4).mono ?_
   rintro e u' w'' ⟨rfl, rfl, W1, e5, rfl, B5⟩
   obtain ⟨O, B9⟩ := B5.putO (us := eVl nn) rfl nwVl
   have f1 := O.rm (R.trans (Rm.ext e5)) (by omega)
   have f2 : MAt m st2.1 _ := ⟨O.bk (hMA.ext e5).bk (by omega), hMA.fit⟩
   have f3 := hJ.only (hJ.ext hJA e5 (Nat.le_trans hh R.size)) O (by omega)
   have d0 := B9.c 0 _ rfl; have d1 := B9.c 1 _ rfl; have d2 := B9.c 2 _ rfl; have d3 := B9.c 3 _ rfl; have d4 := B9.c 4 _ rfl; have d5 := B9.c 5 _ rfl; have d6 := B9.c 6 _ rfl; have d7 := B9.c 7 _ rfl; have d8 := B9.c 8 _ rfl; have d9 := B9.c 9 _ rfl; have d10 := B9.c 10 _ rfl
   generalize setL W1 (w.heap.size + 1) 0 (eVl nn) = X5 at *
   simp [Leaves, settle, results, Tryz.results66, go_sem, d0, d1, d2, d3, d4, d5, d6, d7, d8, d9, d10]
   exact ⟨f1, f2, f3, rfl⟩
 ·obtain ⟨hR, hMA, hJA, h⟩ := h
  obtain ⟨res, st2⟩ := r
  cases res with
  | ok q => obtain ⟨_, hv, _⟩ := h; cases hv
  | error nn => cases h
end Go.Proofs.YtkeikfekkdplgaaGreatDoor
namespace Go.Proofs.YtkeikfekkdplgaaGreatDoor
open Go Go.RowKit

set_option maxRecDepth 100000 in
set_option maxHeartbeats 4000000 in
theorem ins_int (ao : Option Addr) (n c : Nat) (w : World) (hn : n ≤ 1) : Calls Tryz.prog 152 #[.slice ao n c, .int .i64 0, .int .i64 ((n : Nat) : Int)] w (fun e w' => e = .returned (.tuple #[]) ∧ Ext w w') := by
 obtain rfl | rfl : n = 0 ∨ n = 1 := by omega
 ·go_enter Tryz.func152, Tryz.ntmps152
  go_wp2
  refine wp_loop_rounds 1 ?_
  rw [rounds_succ]
  go_wp2_with fail
  first | exact bodyPost_ret (v := .tuple #[]) (by simp [results, Tryz.results152, go_sem]) rfl ⟨rfl, Ext.refl _⟩ | exact bodyPost_ret (v := .tuple #[]) (by simp [results, Tryz.results152, go_sem]) rfl ⟨rfl, e1⟩ | exact bodyPost_end (v := .tuple #[]) (by simp [results, Tryz.results152, go_sem]) rfl ⟨rfl, Ext.refl _⟩ | exact bodyPost_end (v := .tuple #[]) (by simp [results, Tryz.results152, go_sem]) rfl ⟨rfl, e1⟩ | trace_state
 ·go_enter Tryz.func152, Tryz.ntmps152
  go_wp2
  refine wp_loop_rounds 1 ?_
  rw [rounds_succ]
  go_wp2_with fail
  first | exact bodyPost_ret (v := .tuple #[]) (by simp [results, Tryz.results152, go_sem]) rfl ⟨rfl, Ext.refl _⟩ | exact bodyPost_ret (v := .tuple #[]) (by simp [results, Tryz.results152, go_sem]) rfl ⟨rfl, e1⟩ | exact bodyPost_end (v := .tuple #[]) (by simp [results, Tryz.results152, go_sem]) rfl ⟨rfl, Ext.refl _⟩ | exact bodyPost_end (v := .tuple #[]) (by simp [results, Tryz.results152, go_sem]) rfl ⟨rfl, e1⟩ | trace_state

set_option maxRecDepth 100000 in
set_option maxHeartbeats 4000000 in
theorem pdq_int (ao : Option Addr) (n c : Nat) (w : World) (hn : n ≤ 1) (l : Int) : Calls Tryz.prog 115 #[.slice ao n c, .int .i64 0, .int .i64 ((n : Nat) : Int), .int .i64 l] w (fun e w' => e = .returned (.tuple #[]) ∧ Ext w w') := by
 obtain rfl | rfl : n = 0 ∨ n = 1 := by omega
 ·go_enter Tryz.func115, Tryz.ntmps115
  go_wp2
  refine wp_loop_rounds 1 ?_
  rw [rounds_succ]
  go_wp2_with (go_at_call 152; refine (ins_int ao 0 c _ (by decide)).mono ?_; rintro e w1 ⟨rfl, e1⟩)
  first | exact bodyPost_ret (v := .tuple #[]) (by simp [results, Tryz.results115, go_sem]) rfl ⟨rfl, Ext.refl _⟩ | exact bodyPost_ret (v := .tuple #[]) (by simp [results, Tryz.results115, go_sem]) rfl ⟨rfl, e1⟩ | exact bodyPost_end (v := .tuple #[]) (by simp [results, Tryz.results115, go_sem]) rfl ⟨rfl, Ext.refl _⟩ | exact bodyPost_end (v := .tuple #[]) (by simp [results, Tryz.results115, go_sem]) rfl ⟨rfl, e1⟩ | trace_state
 ·go_enter Tryz.func115, Tryz.ntmps115
  go_wp2
  refine wp_loop_rounds 1 ?_
  rw [rounds_succ]
  go_wp2_with (go_at_call 152; refine (ins_int ao 1 c _ (by decide)).mono ?_; rintro e w1 ⟨rfl, e1⟩)
  first | exact bodyPost_ret (v := .tuple #[]) (by simp [results, Tryz.results115, go_sem]) rfl ⟨rfl, Ext.refl _⟩ | exact bodyPost_ret (v := .tuple #[]) (by simp [results, Tryz.results115, go_sem]) rfl ⟨rfl, e1⟩ | exact bodyPost_end (v := .tuple #[]) (by simp [results, Tryz.results115, go_sem]) rfl ⟨rfl, Ext.refl _⟩ | exact bodyPost_end (v := .tuple #[]) (by simp [results, Tryz.results115, go_sem]) rfl ⟨rfl, e1⟩ | trace_state

set_option maxRecDepth 100000 in
set_option maxHeartbeats 4000000 in
theorem sort_int (ao : Option Addr) (n c : Nat) (w : World) (hn : n ≤ 1) : Calls Tryz.prog 85 #[.slice ao n c] w (fun e w' => e = .returned (.tuple #[]) ∧ Ext w w') := by
 obtain rfl | rfl : n = 0 ∨ n = 1 := by omega
 ·go_enter Tryz.func85, Tryz.ntmps85
  go_wp2_with (first | (go_at_call 116; refine (Tryz.bits_Len _ _ (by omega) (by omega)).mono ?_; rintro e w1 ⟨rfl, rfl⟩) | (go_at_call 115; refine (pdq_int ao 0 c _ (by decide) _).mono ?_; rintro e w1 ⟨rfl, e1⟩))
  first | exact bodyPost_ret (v := .tuple #[]) (by simp [results, Tryz.results85, go_sem]) rfl ⟨rfl, Ext.refl _⟩ | exact bodyPost_ret (v := .tuple #[]) (by simp [results, Tryz.results85, go_sem]) rfl ⟨rfl, e1⟩ | exact bodyPost_end (v := .tuple #[]) (by simp [results, Tryz.results85, go_sem]) rfl ⟨rfl, Ext.refl _⟩ | exact bodyPost_end (v := .tuple #[]) (by simp [results, Tryz.results85, go_sem]) rfl ⟨rfl, e1⟩ | trace_state
 ·go_enter Tryz.func85, Tryz.ntmps85
  go_wp2_with (first | (go_at_call 116; refine (Tryz.bits_Len _ _ (by omega) (by omega)).mono ?_; rintro e w1 ⟨rfl, rfl⟩) | (go_at_call 115; refine (pdq_int ao 1 c _ (by decide) _).mono ?_; rintro e w1 ⟨rfl, e1⟩))
  first | exact bodyPost_ret (v := .tuple #[]) (by simp [results, Tryz.results85, go_sem]) rfl ⟨rfl, Ext.refl _⟩ | exact bodyPost_ret (v := .tuple #[]) (by simp [results, Tryz.results85, go_sem]) rfl ⟨rfl, e1⟩ | exact bodyPost_end (v := .tuple #[]) (by simp [results, Tryz.results85, go_sem]) rfl ⟨rfl, Ext.refl _⟩ | exact bodyPost_end (v := .tuple #[]) (by simp [results, Tryz.results85, go_sem]) rfl ⟨rfl, e1⟩ | trace_state

set_option maxRecDepth 100000 in
set_option maxHeartbeats 4000000 in
theorem ins_string (ao : Option Addr) (n c : Nat) (w : World) (hn : n ≤ 1) : Calls Tryz.prog 163 #[.slice ao n c, .int .i64 0, .int .i64 ((n : Nat) : Int)] w (fun e w' => e = .returned (.tuple #[]) ∧ Ext w w') := by
 obtain rfl | rfl : n = 0 ∨ n = 1 := by omega
 ·go_enter Tryz.func163, Tryz.ntmps163
  go_wp2
  refine wp_loop_rounds 1 ?_
  rw [rounds_succ]
  go_wp2_with fail
  first | exact bodyPost_ret (v := .tuple #[]) (by simp [results, Tryz.results163, go_sem]) rfl ⟨rfl, Ext.refl _⟩ | exact bodyPost_ret (v := .tuple #[]) (by simp [results, Tryz.results163, go_sem]) rfl ⟨rfl, e1⟩ | exact bodyPost_end (v := .tuple #[]) (by simp [results, Tryz.results163, go_sem]) rfl ⟨rfl, Ext.refl _⟩ | exact bodyPost_end (v := .tuple #[]) (by simp [results, Tryz.results163, go_sem]) rfl ⟨rfl, e1⟩ | trace_state
 ·go_enter Tryz.func163, Tryz.ntmps163
  go_wp2
  refine wp_loop_rounds 1 ?_
  rw [rounds_succ]
  go_wp2_with fail
  first | exact bodyPost_ret (v := .tuple #[]) (by simp [results, Tryz.results163, go_sem]) rfl ⟨rfl, Ext.refl _⟩ | exact bodyPost_ret (v := .tuple #[]) (by simp [results, Tryz.results163, go_sem]) rfl ⟨rfl, e1⟩ | exact bodyPost_end (v := .tuple #[]) (by simp [results, Tryz.results163, go_sem]) rfl ⟨rfl, Ext.refl _⟩ | exact bodyPost_end (v := .tuple #[]) (by simp [results, Tryz.results163, go_sem]) rfl ⟨rfl, e1⟩ | trace_state

set_option maxRecDepth 100000 in
set_option maxHeartbeats 4000000 in
theorem pdq_string (ao : Option Addr) (n c : Nat) (w : World) (hn : n ≤ 1) (l : Int) : Calls Tryz.prog 117 #[.slice ao n c, .int .i64 0, .int .i64 ((n : Nat) : Int), .int .i64 l] w (fun e w' => e = .returned (.tuple #[]) ∧ Ext w w') := by
 obtain rfl | rfl : n = 0 ∨ n = 1 := by omega
 ·go_enter Tryz.func117, Tryz.ntmps117
  go_wp2
  refine wp_loop_rounds 1 ?_
  rw [rounds_succ]
  go_wp2_with (go_at_call 163; refine (ins_string ao 0 c _ (by decide)).mono ?_; rintro e w1 ⟨rfl, e1⟩)
  first | exact bodyPost_ret (v := .tuple #[]) (by simp [results, Tryz.results117, go_sem]) rfl ⟨rfl, Ext.refl _⟩ | exact bodyPost_ret (v := .tuple #[]) (by simp [results, Tryz.results117, go_sem]) rfl ⟨rfl, e1⟩ | exact bodyPost_end (v := .tuple #[]) (by simp [results, Tryz.results117, go_sem]) rfl ⟨rfl, Ext.refl _⟩ | exact bodyPost_end (v := .tuple #[]) (by simp [results, Tryz.results117, go_sem]) rfl ⟨rfl, e1⟩ | trace_state
 ·go_enter Tryz.func117, Tryz.ntmps117
  go_wp2
  refine wp_loop_rounds 1 ?_
  rw [rounds_succ]
  go_wp2_with (go_at_call 163; refine (ins_string ao 1 c _ (by decide)).mono ?_; rintro e w1 ⟨rfl, e1⟩)
  first | exact bodyPost_ret (v := .tuple #[]) (by simp [results, Tryz.results117, go_sem]) rfl ⟨rfl, Ext.refl _⟩ | exact bodyPost_ret (v := .tuple #[]) (by simp [results, Tryz.results117, go_sem]) rfl ⟨rfl, e1⟩ | exact bodyPost_end (v := .tuple #[]) (by simp [results, Tryz.results117, go_sem]) rfl ⟨rfl, Ext.refl _⟩ | exact bodyPost_end (v := .tuple #[]) (by simp [results, Tryz.results117, go_sem]) rfl ⟨rfl, e1⟩ | trace_state

set_option maxRecDepth 100000 in
set_option maxHeartbeats 4000000 in
theorem sort_string (ao : Option Addr) (n c : Nat) (w : World) (hn : n ≤ 1) : Calls Tryz.prog 86 #[.slice ao n c] w (fun e w' => e = .returned (.tuple #[]) ∧ Ext w w') := by
 obtain rfl | rfl : n = 0 ∨ n = 1 := by omega
 ·go_enter Tryz.func86, Tryz.ntmps86
  go_wp2_with (first | (go_at_call 116; refine (Tryz.bits_Len _ _ (by omega) (by omega)).mono ?_; rintro e w1 ⟨rfl, rfl⟩) | (go_at_call 117; refine (pdq_string ao 0 c _ (by decide) _).mono ?_; rintro e w1 ⟨rfl, e1⟩))
  first | exact bodyPost_ret (v := .tuple #[]) (by simp [results, Tryz.results86, go_sem]) rfl ⟨rfl, Ext.refl _⟩ | exact bodyPost_ret (v := .tuple #[]) (by simp [results, Tryz.results86, go_sem]) rfl ⟨rfl, e1⟩ | exact bodyPost_end (v := .tuple #[]) (by simp [results, Tryz.results86, go_sem]) rfl ⟨rfl, Ext.refl _⟩ | exact bodyPost_end (v := .tuple #[]) (by simp [results, Tryz.results86, go_sem]) rfl ⟨rfl, e1⟩ | trace_state
 ·go_enter Tryz.func86, Tryz.ntmps86
  go_wp2_with (first | (go_at_call 116; refine (Tryz.bits_Len _ _ (by omega) (by omega)).mono ?_; rintro e w1 ⟨rfl, rfl⟩) | (go_at_call 117; refine (pdq_string ao 1 c _ (by decide) _).mono ?_; rintro e w1 ⟨rfl, e1⟩))
  first | exact bodyPost_ret (v := .tuple #[]) (by simp [results, Tryz.results86, go_sem]) rfl ⟨rfl, Ext.refl _⟩ | exact bodyPost_ret (v := .tuple #[]) (by simp [results, Tryz.results86, go_sem]) rfl ⟨rfl, e1⟩ | exact bodyPost_end (v := .tuple #[]) (by simp [results, Tryz.results86, go_sem]) rfl ⟨rfl, Ext.refl _⟩ | exact bodyPost_end (v := .tuple #[]) (by simp [results, Tryz.results86, go_sem]) rfl ⟨rfl, e1⟩ | trace_state
end Go.Proofs.YtkeikfekkdplgaaGreatDoor
