/-
 Package prime: word of 0, Is at every integer of 64 bits.
 Package density: Local, of what is refused, at what is no prime, at any integer of 64 bits.
 The reference of package density: Same, at two audits that are equal.
-/
import Derived.Test.YtknffgdbdadpcaaGreatDoorPri5
import Derived.Test.YtknffgdbdadpcaaGreatDoorRwg
import Derived.Test.YtknffgdbdadpcaaGreatDoorRwz
import Derived.Test.YtknffgdbdadpcaaGreatDoorDen13
namespace Go.Proofs.YtknffgdbdadpcaaGreatDoor
open Go Go.RowKit Go.Shelf

attribute [local go_sem] Oper.semAt_some
set_option maxRecDepth 100000 in
set_option maxHeartbeats 4000000 in
theorem word_0 (w : World) (s : Bool) (a : Option Addr) (c : Nat) (hc : c ≤ 9223372036854775807) :
  Calls Tryz.prog 85 #[.agg #[.bool s, .slice a 0 c]] w (Ret w (IsT2 (IsV (.int .u64 0)) (IsV (.bool (!s))))) := by
 obtain ⟨W, hW, E, C1, C2⟩ : ∃ W, W = w.alloc (.cells #[.bool s, .slice a 0 c] 33) ∧ Ext w W ∧ World.cell? W ⟨w.heap.size, 0, none⟩ = some (.bool s) ∧ World.cell? W ⟨w.heap.size, 1, none⟩ = some (.slice a 0 c) :=
  ⟨_, rfl, (Ext.refl _).alloc _, by simp, by simp⟩
 refine calls_of_wp_marks Tryz.func85 rfl ?_
 simp only [Tryz.ntmps85, List.size_toArray, List.length_cons, List.length_nil, Nat.reduceAdd, Nat.reduceSub, Array.replicate_succ, Array.replicate_zero, List.push_toArray, List.append_toArray, List.nil_append, List.cons_append]
 go_upto_region 1 with (fail)
 rw [← hW]
 have hWs : w.heap.size < W.heap.size := World.block_lt_of_cell? W _ C1
 clear hW
 go_wp2_with (go_at_call 88; refine Calls.mono (callsIn_wide.1 (back_in Fence.wide 3 trivial rfl _ _ _ _)) ?_; rintro e w' ⟨rfl, rfl⟩)
 have hmin : (min (0 : Int) 2).toNat = 0 := by decide
 rw [hmin]
 clear hmin
 obtain ⟨W2, hW2⟩ : ∃ W2, (W.alloc (.cells #[.int .u64 0] 99)).alloc (.cells #[.slice a 0 c] 27) = W2 := ⟨_, rfl⟩
 have V2 : VarAt W.heap.size W.heap.size W (.int .u64 0) W2 := by
  have bV := Boxed.new W 99 (.int .u64 0)
  rw [← hW2]
  exact ⟨⟨(bV.alloc _).cell, (bV.alloc _).frozen⟩, ((Ext.refl _).alloc _).alloc _⟩
 have cN : World.cell? W2 ⟨W.heap.size + 1, 0, none⟩ = some (.slice a 0 c) := by
  have bN := Boxed.new (W.alloc (.cells #[.int .u64 0] 99)) 27 (.slice a 0 c)
  rw [World.size_alloc] at bN
  rw [← hW2]
  exact bN.cell
 have hsz : W2.heap.size = W.heap.size + 2 := by rw [← hW2]; simp
 rw [hW2]
 clear hW2
 refine wpIn_wide.1 (wpIn_rangeFunc_ownG (n := 9) rfl (by decide) (gf := 136) (lb := #[.pointer (some ⟨W.heap.size + 1, 0, none⟩)]) rfl trivial (en Tryz.func136)
  (back_stops Fence.wide 8 trivial rfl (by decide) (W.heap.size + 1) w.heap.size a 0 c (fun _ => 0) (by decide) W2 (by omega) (by omega) cN (Or.inl rfl))
  (fun h k => h.trans k) (Kpb.put (by omega)) (Below.refl _ _) (fun _ => rfl)
  (fun pre W' => VarAt W.heap.size W.heap.size W (.int .u64 (bval pre : Nat)) W') (fun _ _ _ => False)
  (varAt_own _ (Nat.le_refl _) (by omega)) (fun _ _ _ _ _ h _ _ => h) V2 ?_ ?_ ?_ ?_ ?_)
 rotate_left
 ·intro l x W' K hK
  gi_wp2
  exact hK
 ·rintro l pre x W' V6 hlen
  exact absurd hlen (Nat.not_lt_zero _)
 ·rintro D ys W' hD rfl V6 hK
  have C1' := Ext.cell V6.2 C1
  have C2' := Ext.cell V6.2 C2
  have Lg : World.cell? W' ⟨W.heap.size, 0, none⟩ = some (.int .u64 0) := V6.1.1
  have Fg := V6.1.2
  have hfin : Ext w (W'.drew.putObj D (.deferred none)) := Below.trans (E.trans V6.2).drew (belowK_b (w := w) (Nat.le_refl _) W'.drew D _ _ (by omega) hK rfl rfl)
  clear V6 V2
  go_wp2_with fail
  cases s
  ·go_region
   go_wp2_with fail
   exact marks_ret1 hK (v := .tuple #[.int .u64 0, .bool true]) (by simp [results, Tryz.results85, go_sem]) ⟨_, rfl, hfin, _, _, rfl, rfl, rfl⟩
  ·go_region
   go_wp2_with fail
   exact marks_ret1 hK (v := .tuple #[.int .u64 0, .bool false]) (by simp [results, Tryz.results85, go_sem]) ⟨_, rfl, hfin, _, _, rfl, rfl, rfl⟩
 ·intro D q pre W' _ _ h _
  exact h.elim
theorem least_ix (f : Nat → Nat) : ∀ m, ∃ i, i ≤ m ∧ (i < m → f i = 0) ∧ ∀ j, j < i → f j ≠ 0
 | 0 => ⟨0, Nat.le_refl _, fun h => absurd h (Nat.lt_irrefl _), fun j h => absurd h (Nat.not_lt_zero _)⟩
 | m + 1 => by
  obtain ⟨i, h1, h2, h3⟩ := least_ix f m
  rcases Nat.lt_or_ge i m with h | h
  ·exact ⟨i, by omega, fun _ => h2 h, h3⟩
  ·obtain rfl : i = m := by omega
   by_cases h0 : f i = 0
   ·exact ⟨i, by omega, fun _ => h0, h3⟩
   ·refine ⟨i + 1, Nat.le_refl _, fun h => absurd h (Nat.lt_irrefl _), fun j hj => ?_⟩
    rcases Nat.lt_or_ge j i with h4 | h4
    ·exact h3 j h4
    ·obtain rfl : j = i := by omega
     exact h0
theorem isPrime_all (w : World) (N : Nat) (hN : N < 9223372036854775808) (hT : Tzt w) :
  Calls Tryz.prog 86 #[.int .u64 ((N : Nat) : Int)] w (Ret w (IsBq (PrS N))) := by
 obtain ⟨i, h1, h2, h3⟩ := least_ix (fun j => N % prBases.getD j 1) 13
 exact isPrime_g w N i hN h1 h2 h3 hT
theorem IsI.sgn {k : Nat} {z : Int} {w : World} {s : Bool} {a : Option Addr} {n c : Nat} (h : IsI k z (.agg #[.bool s, .slice a n c]) w) : s = decide (z < 0) := by
 by_cases h0 : 0 ≤ z
 ·rw [h.pos' h0, decide_eq_false (by omega)]
 ·rw [decide_eq_true (by omega)]
  obtain ⟨_, _, _, _, e, m, _, _, he⟩ := h
  injection e with e
  injection e with e
  simp only [List.cons.injEq, Value.bool.injEq, Value.slice.injEq, and_true] at e
  obtain ⟨rfl, _⟩ := e
  cases s
  ·simp only [Bool.false_eq_true, if_false] at he; omega
  ·rfl
/-- What Is is to say of an integer below 2^20. -/
def IsP (z : Int) (B : Bool) : Prop := z < 1048576 → (B = true ↔ (0 ≤ z ∧ Pr z.toNat))
set_option maxRecDepth 100000 in
set_option maxHeartbeats 4000000 in
theorem Is_g {x : Value} {w : World} (z : Int) (hz : -9223372036854775808 ≤ z ∧ z ≤ 9223372036854775807) (hT : Tzt w) (hx : IsI 2 z x w) : Calls Tryz.prog 40 #[x] w (Ret w (IsT2 (IsBq (IsP z)) (IsV (.int .i64 0)))) := by
 obtain ⟨s1, a1, n1, c1, rfl, h1⟩ := hx
 have h1 : IsI 2 z (.agg #[.bool s1, .slice a1 n1 c1]) w := ⟨_, _, _, _, rfl, h1⟩
 obtain ⟨W, hW, E, C1, C2⟩ : ∃ W, W = w.alloc (.cells #[.bool s1, .slice a1 n1 c1] 33) ∧ Ext w W ∧ World.cell? W ⟨w.heap.size, 0, none⟩ = some (.bool s1) ∧ World.cell? W ⟨w.heap.size, 1, none⟩ = some (.slice a1 n1 c1) :=
  ⟨_, rfl, (Ext.refl _).alloc _, by simp, by simp⟩
 have hcon : Calls Tryz.prog 85 #[.agg #[.bool s1, .slice a1 n1 c1]] W (Ret W (IsT2 (IsV (.int .u64 ((z.natAbs : Nat) : Int))) (IsV (.bool (!s1))))) := by
  by_cases h0 : z = 0
  ·subst h0
   obtain ⟨_, _, _, _, e, m, ⟨xs, hw, hk, hzz, hv⟩, hs, he⟩ := h1
   injection e with e
   injection e with e
   simp only [List.cons.injEq, Value.bool.injEq, Value.slice.injEq, and_true] at e
   obtain ⟨rfl, rfl, rfl, rfl⟩ := e
   have hm0 : m = 0 := by
    cases s1
    ·simp only [Bool.false_eq_true, if_false] at he; omega
    ·simp only [if_true] at he; omega
   have hn0 : n1 = 0 := by
    rcases Nat.eq_zero_or_pos n1 with h | h
    ·exact h
    ·have h3 := natVal_ge xs (by have := hw.len; omega) (by rw [hw.len]; exact hzz h)
     have h4 : 0 < (4294967296 : Nat) ^ (xs.length - 1) := Nat.pow_pos (by decide)
     omega
   subst hn0
   exact word_0 W s1 a1 c1 hw.big
  ·have hc := word_f (IsI.stb _ _ _ _ _ E h1) h0
   have hd : decide (0 < z) = !s1 := by
    rw [h1.sgn]
    by_cases h5 : z < 0
    ·rw [decide_eq_true h5, decide_eq_false (by omega)]; rfl
    ·rw [decide_eq_false h5, decide_eq_true (by omega)]; rfl
   rw [hd] at hc
   exact hc
 have hsz : s1 = true → z < 0 := by
  intro h
  have h5 := h1.sgn
  rw [h] at h5
  exact of_decide_eq_true h5.symm
 have hsz2 : s1 = false → 0 ≤ z := by
  intro h
  have h5 := h1.sgn
  rw [h] at h5
  have := of_decide_eq_false h5.symm
  omega
 have hP := fun (h : 0 ≤ z) w hw => isPrime_all w z.natAbs (by omega) hw
 have HZ := hid hz
 have HT := hid hT
 have HSZ := hid (And.intro hsz hsz2)
 obtain ⟨N, hN⟩ : ∃ N, z.natAbs = N := ⟨_, rfl⟩
 have HNN := hid hN
 rw [hN] at hcon hP
 clear h1 hz hT hsz hsz2 hN
 cases s1
 ·replace hP := hP (HSZ.out.2 rfl)
  go_enter Tryz.func40, Tryz.ntmps40
  go_upto_region 1 with (fail)
  rw [← hW]
  clear hW
  go_upto_region 2 with (go_at_call 85; refine Calls.mono hcon ?_; rintro e w1 ⟨_, rfl, E1, _, _, rfl, rfl, rfl⟩)
  have C1' := Ext.cell E1 C1
  have hT1 := HT.out.ext (E.trans E1)
  go_wp2_with (go_at_call 86; refine Calls.mono (hP w1 hT1) ?_; rintro e w2 ⟨_, rfl, E2, B, rfl, hB⟩)
  refine bodyPost_ret (v := .tuple #[.bool B, .int .i64 0]) (by simp [results, Tryz.results40, go_sem]) rfl ⟨_, rfl, (E.trans E1).trans E2, _, _, rfl, ⟨B, rfl, fun h9 => ?_⟩, rfl⟩
  have h5 := HSZ.out.2 trivial
  have h6 := HNN.out
  rw [hB (by omega), ← h6, show z.natAbs = z.toNat by omega]
  exact ⟨fun h => ⟨h5, h⟩, fun h => h.2⟩
 ·go_enter Tryz.func40, Tryz.ntmps40
  go_upto_region 1 with (fail)
  rw [← hW]
  clear hW
  go_upto_region 2 with (go_at_call 85; refine Calls.mono hcon ?_; rintro e w1 ⟨_, rfl, E1, _, _, rfl, rfl, rfl⟩)
  have C1' := Ext.cell E1 C1
  go_wp2_with fail
  refine bodyPost_ret (v := .tuple #[.bool false, .int .i64 0]) (by simp [results, Tryz.results40, go_sem]) rfl ⟨_, rfl, E.trans E1, _, _, rfl, ⟨false, rfl, fun _ => ?_⟩, rfl⟩
  have := HSZ.out.1 trivial
  constructor
  ·intro h; cases h
  ·intro h; omega
end Go.Proofs.YtknffgdbdadpcaaGreatDoor
namespace Go.Proofs.YtknffgdbdadpcaaGreatDoor
open Go Go.RowKit Go.Shelf

set_option maxRecDepth 100000 in
set_option maxHeartbeats 4000000 in
theorem Local_x {k1 k2 : Nat} {zd z2 ue : Int} {x y : Value} {w : World} (hx : IsI k1 zd x w) (hy : IsI k2 z2 y w) (p : Int) (HUN : Hid (∀ (x y : Value) (w' : World), Ext w w' → IsI k1 zd x w' → IsI k2 z2 y w' → Calls Tryz.prog 39 #[x, y] w' (Ret w' (IsV (.int .i64 ue))))) (HUB : Hid ((ue != 0) = true)) : Calls Tryz.prog 10 #[x, y, .int .i64 p] w (Ret w (IsT2 (IsV (.int .i64 0)) (IsV (.int .i64 ue)))) := by
 obtain ⟨s1, a1, n1, c1, rfl, h1⟩ := hx
 obtain ⟨s2, a2, n2, c2, rfl, h2⟩ := hy
 have h1 : IsI k1 zd (.agg #[.bool s1, .slice a1 n1 c1]) w := ⟨_, _, _, _, rfl, h1⟩
 have h2 : IsI k2 z2 (.agg #[.bool s2, .slice a2 n2 c2]) w := ⟨_, _, _, _, rfl, h2⟩
 obtain ⟨W, hW, S⟩ : ∃ W, W = (w.alloc (.cells #[.bool s1, .slice a1 n1 c1] 33)).alloc (.cells #[.bool s2, .slice a2 n2 c2] 33) ∧ Sto w W [((w.heap.size + 1, 0), IsI k2 z2), ((w.heap.size, 0), IsI k1 zd)] :=
  ⟨_, rfl, ((Sto.start w).new1 (w.heap.size) (by simp) s1 a1 n1 c1 33 _ (IsI.gstb _ _) h1).new1 (w.heap.size + 1) (by simp) s2 a2 n2 c2 33 _ (IsI.gstb _ _) (h2.ext ((Ext.refl _).alloc _))⟩
 clear h1 h2
 have hWs : W.heap.size = w.heap.size + 2 := by rw [hW]; simp
 go_enter Tryz.func10, Tryz.ntmps10
 go_upto_region 1 with (fail)
 rw [← hW]
 clear hW
 obtain ⟨Wp, hWp⟩ : ∃ Wp, W.alloc (.cells #[.int .i64 p] 3) = Wp := ⟨_, rfl⟩
 have S1 : Sto w Wp _ := S.mono (by rw [← hWp]; exact (Ext.refl _).alloc _)
 have C5 : World.cell? Wp ⟨w.heap.size + 1 + 1, 0, none⟩ = some (.int .i64 p) := by
  have := Boxed.new W 3 (.int .i64 p)
  rw [hWs, hWp] at this
  exact this.cell
 have hWps : Wp.heap.size = w.heap.size + 1 + 1 + 1 := by rw [← hWp]; simp; omega
 rw [hWp]
 clear hWp hWs S
 obtain ⟨W2, hW2⟩ : ∃ W2, (Wp.alloc (.cells #[.int .i64 0] 3)).alloc (.cells #[.int .i64 0] 37) = W2 := ⟨_, rfl⟩
 have V2 : VarAt (w.heap.size + 1 + 1 + 1) (w.heap.size + 1 + 1 + 1) Wp (.int .i64 0) W2 := by
  have bV := Boxed.new Wp 3 (.int .i64 0)
  rw [hWps] at bV
  rw [← hW2]
  refine ⟨⟨(bV.alloc _).cell, (bV.alloc _).frozen⟩, ?_⟩
  rw [← hWps]
  exact ((Ext.refl _).alloc _).alloc _
 have U2 : VarAt (w.heap.size + 1 + 1 + 1 + 1) (w.heap.size + 1 + 1 + 1) Wp (.int .i64 0) W2 := by
  have bV := Boxed.new (Wp.alloc (.cells #[.int .i64 0] 3)) 37 (.int .i64 0)
  rw [World.size_alloc, hWps] at bV
  rw [← hW2]
  refine ⟨⟨bV.cell, bV.frozen⟩, ?_⟩
  rw [← hWps]
  exact ((Ext.refl _).alloc _).alloc _
 rw [hW2]
 clear hW2
 obtain ⟨g, hg⟩ : ∃ g, w.heap.size + 1 + 1 + 1 = g := ⟨_, rfl⟩
 rw [hg] at V2 U2 hWps
 have E2 : Ext Wp W2 := by have := V2.2; rw [← hWps] at this; exact this
 have S2 := S1.mono E2
 obtain ⟨s1, a1, n1, c1, B1, h1⟩ := S2.at 1 _ _ _ rfl
 obtain ⟨s2, a2, n2, c2, B2, h2⟩ := S2.at 0 _ _ _ rfl
 have L1a : World.cell? W2 ⟨w.heap.size, 0, none⟩ = some (.bool s1) := B1.c0
 have L1b : World.cell? W2 ⟨w.heap.size, 1, none⟩ = some (.slice a1 n1 c1) := B1.c1
 have L2a : World.cell? W2 ⟨w.heap.size + 1, 0, none⟩ = some (.bool s2) := B2.c0
 have L2b : World.cell? W2 ⟨w.heap.size + 1, 1, none⟩ = some (.slice a2 n2 c2) := B2.c1
 have L5 := Ext.cell E2 C5
 clear B1 B2
 have hcon := HUN.out _ _ _ (S1.ext.trans E2) h1 h2
 have hub := HUB.out
 clear h1 h2 L5
 go_wp2_with (go_at_call 39; go_must (refine Calls.mono hcon ?_; rintro e w3 ⟨_, rfl, E3, rfl⟩; have V3 := V2.ext E3 (Nat.le_trans (by omega) E2.size); have U3 := U2.ext E3 (Nat.le_trans (by omega) E2.size); have Lg := V3.1.1; have Fg := V3.1.2; have Lg2 := U3.1.1; have Fg2 := U3.1.2; clear hcon))
 have V8 := (V3.set (Nat.le_refl _) (.int .i64 0)).set_other (g2 := g + 1) (by omega) (by omega) (.int .i64 ue)
 have U8 := (U3.set_other (g2 := g) (Nat.le_refl _) (by omega) (.int .i64 0)).set (by omega) (.int .i64 ue)
 have hfin : Ext w _ := S1.ext.trans (show Ext Wp _ by rw [Ext, hWps]; exact V8.2)
 have c1 := V8.1.1
 have c2 := U8.1.1
 exact bodyPost_ret (v := .tuple #[.int .i64 0, .int .i64 ue]) (by simp [results, Tryz.results10, go_sem, c1, c2]) rfl ⟨_, rfl, hfin, _, _, rfl, rfl, rfl⟩
set_option maxRecDepth 100000 in
set_option maxHeartbeats 4000000 in
theorem Local_no {k1 k2 : Nat} {zd z2 : Int} {x y : Value} {w : World} (hx : IsI k1 zd x w) (hy : IsI k2 z2 y w) (p : Int) (HUN : Hid (∀ (x y : Value) (w' : World), Ext w w' → IsI k1 zd x w' → IsI k2 z2 y w' → Calls Tryz.prog 39 #[x, y] w' (Ret w' (IsV (.int .i64  0))))) (HPB : Hid (-9223372036854775808 ≤ p ∧ p ≤ 9223372036854775807)) (HT : Hid (Tzt w)) (HNP : Hid (¬ (p < 1048576 ∧ 0 ≤ p ∧ Pr p.toNat))) : Calls Tryz.prog 10 #[x, y, .int .i64 p] w (Ret w (IsT2 (IsV (.int .i64 0)) (IsV (.int .i64 7)))) := by
 obtain ⟨s1, a1, n1, c1, rfl, h1⟩ := hx
 obtain ⟨s2, a2, n2, c2, rfl, h2⟩ := hy
 have h1 : IsI k1 zd (.agg #[.bool s1, .slice a1 n1 c1]) w := ⟨_, _, _, _, rfl, h1⟩
 have h2 : IsI k2 z2 (.agg #[.bool s2, .slice a2 n2 c2]) w := ⟨_, _, _, _, rfl, h2⟩
 obtain ⟨W, hW, S⟩ : ∃ W, W = (w.alloc (.cells #[.bool s1, .slice a1 n1 c1] 33)).alloc (.cells #[.bool s2, .slice a2 n2 c2] 33) ∧ Sto w W [((w.heap.size + 1, 0), IsI k2 z2), ((w.heap.size, 0), IsI k1 zd)] :=
  ⟨_, rfl, ((Sto.start w).new1 (w.heap.size) (by simp) s1 a1 n1 c1 33 _ (IsI.gstb _ _) h1).new1 (w.heap.size + 1) (by simp) s2 a2 n2 c2 33 _ (IsI.gstb _ _) (h2.ext ((Ext.refl _).alloc _))⟩
 clear h1 h2
 have hWs : W.heap.size = w.heap.size + 2 := by rw [hW]; simp
 go_enter Tryz.func10, Tryz.ntmps10
 go_upto_region 1 with (fail)
 rw [← hW]
 clear hW
 obtain ⟨Wp, hWp⟩ : ∃ Wp, W.alloc (.cells #[.int .i64 p] 3) = Wp := ⟨_, rfl⟩
 have S1 : Sto w Wp _ := S.mono (by rw [← hWp]; exact (Ext.refl _).alloc _)
 have C5 : World.cell? Wp ⟨w.heap.size + 1 + 1, 0, none⟩ = some (.int .i64 p) := by
  have := Boxed.new W 3 (.int .i64 p)
  rw [hWs, hWp] at this
  exact this.cell
 have hWps : Wp.heap.size = w.heap.size + 1 + 1 + 1 := by rw [← hWp]; simp; omega
 rw [hWp]
 clear hWp hWs S
 obtain ⟨W2, hW2⟩ : ∃ W2, (Wp.alloc (.cells #[.int .i64 0] 3)).alloc (.cells #[.int .i64 0] 37) = W2 := ⟨_, rfl⟩
 have V2 : VarAt (w.heap.size + 1 + 1 + 1) (w.heap.size + 1 + 1 + 1) Wp (.int .i64 0) W2 := by
  have bV := Boxed.new Wp 3 (.int .i64 0)
  rw [hWps] at bV
  rw [← hW2]
  refine ⟨⟨(bV.alloc _).cell, (bV.alloc _).frozen⟩, ?_⟩
  rw [← hWps]
  exact ((Ext.refl _).alloc _).alloc _
 have U2 : VarAt (w.heap.size + 1 + 1 + 1 + 1) (w.heap.size + 1 + 1 + 1) Wp (.int .i64 0) W2 := by
  have bV := Boxed.new (Wp.alloc (.cells #[.int .i64 0] 3)) 37 (.int .i64 0)
  rw [World.size_alloc, hWps] at bV
  rw [← hW2]
  refine ⟨⟨bV.cell, bV.frozen⟩, ?_⟩
  rw [← hWps]
  exact ((Ext.refl _).alloc _).alloc _
 rw [hW2]
 clear hW2
 obtain ⟨g, hg⟩ : ∃ g, w.heap.size + 1 + 1 + 1 = g := ⟨_, rfl⟩
 rw [hg] at V2 U2 hWps
 have E2 : Ext Wp W2 := by have := V2.2; rw [← hWps] at this; exact this
 have S2 := S1.mono E2
 obtain ⟨s1, a1, n1, c1, B1, h1⟩ := S2.at 1 _ _ _ rfl
 obtain ⟨s2, a2, n2, c2, B2, h2⟩ := S2.at 0 _ _ _ rfl
 have L1a : World.cell? W2 ⟨w.heap.size, 0, none⟩ = some (.bool s1) := B1.c0
 have L1b : World.cell? W2 ⟨w.heap.size, 1, none⟩ = some (.slice a1 n1 c1) := B1.c1
 have L2a : World.cell? W2 ⟨w.heap.size + 1, 0, none⟩ = some (.bool s2) := B2.c0
 have L2b : World.cell? W2 ⟨w.heap.size + 1, 1, none⟩ = some (.slice a2 n2 c2) := B2.c1
 have L5 := Ext.cell E2 C5
 clear B1 B2
 have hcon := HUN.out _ _ _ (S1.ext.trans E2) h1 h2
 clear h1 h2
 go_upto_region 4 with (go_at_call 39; refine Calls.mono hcon ?_; rintro e w3 ⟨_, rfl, E3, rfl⟩)
 have L5a := Ext.cell E3 L5
 have hOf := Of_f w3 p HPB.out.1 HPB.out.2
 have hIs := fun (x : Value) (w' : World) (E : Ext w w') (h : IsI 2 p x w') => Is_g p HPB.out (HT.out.ext E) h
 go_upto_region 5 with (first | (go_at_call 41; refine Calls.mono hOf ?_; rintro e w4 ⟨xp, rfl, E4, hxp⟩) | (go_at_call 40; refine Calls.mono (hIs _ _ (((S1.ext.trans E2).trans E3).trans E4) hxp) ?_; rintro e w5 ⟨_, rfl, E5, _, _, rfl, ⟨B, rfl, hB⟩, rfl⟩))
 have L5b := Ext.cell E5 (Ext.cell E4 L5a)
 have E35 : Ext W2 w5 := (E3.trans E4).trans E5
 have V3 := V2.ext E35 (Nat.le_trans (by omega) E2.size)
 have U3 := U2.ext E35 (Nat.le_trans (by omega) E2.size)
 have Lg := V3.1.1
 have Fg := V3.1.2
 have Lg2 := U3.1.1
 have Fg2 := U3.1.2
 clear hcon hOf hIs hxp L5 L5a
 cases B
 ·clear hB
  go_wp2_with fail
  have V8 := (V3.set (Nat.le_refl _) (.int .i64 0)).set_other (g2 := g + 1) (by omega) (by omega) (.int .i64 7)
  have U8 := (U3.set_other (g2 := g) (Nat.le_refl _) (by omega) (.int .i64 0)).set (by omega) (.int .i64 7)
  have hfin : Ext w _ := S1.ext.trans (show Ext Wp _ by rw [Ext, hWps]; exact V8.2)
  have c1 := V8.1.1
  have c2 := U8.1.1
  exact bodyPost_ret (v := .tuple #[.int .i64 0, .int .i64 7]) (by simp [results, Tryz.results10, go_sem, c1, c2]) rfl ⟨_, rfl, hfin, _, _, rfl, rfl, rfl⟩
 ·have hge : 1048576 ≤ p := by
   by_cases h : p < 1048576
   ·exact absurd ⟨h, (hB h).1 rfl⟩ HNP.out
   ·omega
  clear hB
  go_wp2_with fail
  have V8 := (V3.set (Nat.le_refl _) (.int .i64 0)).set_other (g2 := g + 1) (by omega) (by omega) (.int .i64 7)
  have U8 := (U3.set_other (g2 := g) (Nat.le_refl _) (by omega) (.int .i64 0)).set (by omega) (.int .i64 7)
  have hfin : Ext w _ := S1.ext.trans (show Ext Wp _ by rw [Ext, hWps]; exact V8.2)
  have c1 := V8.1.1
  have c2 := U8.1.1
  exact bodyPost_ret (v := .tuple #[.int .i64 0, .int .i64 7]) (by simp [results, Tryz.results10, go_sem, c1, c2]) rfl ⟨_, rfl, hfin, _, _, rfl, rfl, rfl⟩
end Go.Proofs.YtknffgdbdadpcaaGreatDoor
namespace Go.Proofs.YtknffgdbdadpcaaGreatDoor
open Go Go.RowKit

set_option maxRecDepth 100000 in
set_option maxHeartbeats 8000000 in
theorem auSame_nil (w : World) : Calls Tryz.prog 21 #[auNil, auNil] w (Ret w (IsV (.bool true))) := by
 obtain ⟨W, hW, E, hc1, hc2⟩ : ∃ W, W = (w.alloc (.cells #[.slice none 0 0, .bool false, .slice none 0 0, .bool false, .slice none 0 0] 48)).alloc (.cells #[.slice none 0 0, .bool false, .slice none 0 0, .bool false, .slice none 0 0] 48) ∧ Ext w W ∧ (∀ (j : Nat) (v : Value), (#[.slice none 0 0, .bool false, .slice none 0 0, .bool false, .slice none 0 0] : Array Value)[j]? = some v → World.cell? W ⟨w.heap.size, j, none⟩ = some v) ∧ (∀ (j : Nat) (v : Value), (#[.slice none 0 0, .bool false, .slice none 0 0, .bool false, .slice none 0 0] : Array Value)[j]? = some v → World.cell? W ⟨w.heap.size + 1, j, none⟩ = some v) :=
  ⟨_, rfl, ((Ext.refl _).alloc _).alloc _, fun j v hj => Ext.cell ((Ext.refl _).alloc _) (cell_newAt _ _ rfl _ _ _ _ hj), fun j v hj => cell_newAt _ _ (by simp) _ _ _ _ hj⟩
 have hz : ∀ w', IsQ (IsI 0 0) (IsI 0 0) (.agg #[.bool false, .slice none 0 0, .bool false, .slice none 0 0]) w' := fun w' => ⟨_, _, _, _, _, _, _, _, rfl, IsI.nil w' 0, IsI.nil w' 0⟩
 have hS := fun w' => rqSame_t (hz w') (hz w') (by decide) rfl rfl
 clear hz
 unfold auNil
 go_enter Tryz.func21, Tryz.ntmps21
 go_upto_region 1 with (fail)
 rw [← hW]
 clear hW
 have M0 := hc1 0 _ rfl
 have M1 := hc1 1 _ rfl
 have M2 := hc1 2 _ rfl
 have M3 := hc1 3 _ rfl
 have M4 := hc1 4 _ rfl
 have N0 := hc2 0 _ rfl
 have N1 := hc2 1 _ rfl
 have N2 := hc2 2 _ rfl
 have N3 := hc2 3 _ rfl
 have N4 := hc2 4 _ rfl
 clear hc1 hc2
 go_wp2_with (go_at_call 33; go_must (refine Calls.mono (hS _) ?_; rintro e w1 ⟨_, rfl, E1, rfl⟩; clear hS; have M0 := Ext.cell E1 M0))
 go_loopg [5] 0 (fun _ v5 wr => v5 = .int .i64 0 ∧ wr = w1)
 case atStart => exact ⟨rfl, rfl⟩
 case round =>
  obtain ⟨rfl, rfl⟩ := hrel
  go_wp2_with fail
  exact bodyPost_ret (v := .bool true) (by simp [results, Tryz.results21, go_sem]) rfl ⟨_, rfl, E.trans E1, rfl⟩
set_option maxRecDepth 100000 in
set_option maxHeartbeats 8000000 in
theorem auSame_f {name : ByteArray} {K1 K2 : Nat} {q r : Rat} {x y : Value} {w : World} (hx : AuV name K1 q r x w) (hy : AuV name K2 q r y w) (hK : K1 ≤ 1048576 ∧ K2 ≤ 1048576) : Calls Tryz.prog 21 #[x, y] w (Ret w (IsV (.bool true))) := by
 obtain ⟨g1, s1, a1, n1, c1, t1, d1, m1, e1, rfl, ht1, hp1⟩ := hx
 obtain ⟨g2, s2, a2, n2, c2, t2, d2, m2, e2, rfl, ht2, hp2⟩ := hy
 obtain ⟨W, hW, E, hc1, hc2⟩ : ∃ W, W = (w.alloc (.cells #[.slice (some ⟨g1, 0, none⟩) 1 1, .bool s1, .slice a1 n1 c1, .bool t1, .slice d1 m1 e1] 48)).alloc (.cells #[.slice (some ⟨g2, 0, none⟩) 1 1, .bool s2, .slice a2 n2 c2, .bool t2, .slice d2 m2 e2] 48) ∧ Ext w W ∧ (∀ (j : Nat) (v : Value), (#[.slice (some ⟨g1, 0, none⟩) 1 1, .bool s1, .slice a1 n1 c1, .bool t1, .slice d1 m1 e1] : Array Value)[j]? = some v → World.cell? W ⟨w.heap.size, j, none⟩ = some v) ∧ (∀ (j : Nat) (v : Value), (#[.slice (some ⟨g2, 0, none⟩) 1 1, .bool s2, .slice a2 n2 c2, .bool t2, .slice d2 m2 e2] : Array Value)[j]? = some v → World.cell? W ⟨w.heap.size + 1, j, none⟩ = some v) :=
  ⟨_, rfl, ((Ext.refl _).alloc _).alloc _, fun j v hj => Ext.cell ((Ext.refl _).alloc _) (cell_newAt _ _ rfl _ _ _ _ hj), fun j v hj => cell_newAt _ _ (by simp) _ _ _ _ hj⟩
 have hS := fun w' (e : Ext w w') => rqSame_eq (IsQ.stb (IsI.stb _ _) (IsI.stb _ _) _ _ _ e ht1) (IsQ.stb (IsI.stb _ _) (IsI.stb _ _) _ _ _ e ht2) hK.1 rfl
 go_enter Tryz.func21, Tryz.ntmps21
 go_upto_region 1 with (fail)
 rw [← hW]
 clear hW
 have M0 := hc1 0 _ rfl
 have M1 := hc1 1 _ rfl
 have M2 := hc1 2 _ rfl
 have M3 := hc1 3 _ rfl
 have M4 := hc1 4 _ rfl
 have N0 := hc2 0 _ rfl
 have N1 := hc2 1 _ rfl
 have N2 := hc2 2 _ rfl
 have N3 := hc2 3 _ rfl
 have N4 := hc2 4 _ rfl
 clear hc1 hc2 ht1 ht2
 have hS := hS _ E
 go_wp2_with (go_at_call 33; go_must (refine Calls.mono hS ?_; rintro e w1 ⟨_, rfl, E1, rfl⟩; clear hS))
 have M0' := Ext.cell E1 M0
 have N0' := Ext.cell E1 N0
 clear M0 M1 M2 M3 M4 N0 N1 N2 N3 N4
 go_loopg [5, 6, 7] 1 (fun gk v5 _ _ wr => ∃ i : Nat, v5 = .int .i64 ((i : Nat) : Int) ∧ i + gk = 1 ∧ Ext w1 wr)
 case atStart => exact ⟨0, rfl, rfl, Ext.refl _⟩
 case round =>
  obtain ⟨i, rfl, hi, EW⟩ := hrel
  have M0 := Ext.cell EW M0'
  have N0 := Ext.cell EW N0'
  rcases Nat.eq_zero_or_pos gk with h0 | h0
  ·obtain rfl : i = 1 := by omega
   clear hi h0
   go_wp2_with fail
   exact bodyPost_ret (v := .bool true) (by simp [results, Tryz.results21, go_sem]) rfl ⟨_, rfl, (E.trans E1).trans EW, rfl⟩
  ·obtain rfl : i = 0 := by omega
   obtain rfl : gk = 1 := by omega
   clear hi h0
   have P1 := hp1.ext ((E.trans E1).trans EW)
   have P2 := hp2.ext ((E.trans E1).trans EW)
   obtain ⟨sA, aA, nA, cA, sB, aB, nB, cB, A2, A3, A4, A5, hq1⟩ := P1.c
   obtain ⟨sC, aC, nC, cC, sD, aD, nD, cD, B2, B3, B4, B5, hq2⟩ := P2.c
   have A0 := P1.nm
   have A1 := P1.at_
   have A6 := P1.is_
   have A7 := P1.v0
   have A8 := P1.v1
   have B0 := P2.nm
   have B1 := P2.at_
   have B6 := P2.is_
   have B7 := P2.v0
   have B8 := P2.v1
   clear P1 P2 hp1 hp2
   have hR := fun w' (e : Ext wr w') => rqSame_eq (IsQ.stb (IsI.stb _ _) (IsI.stb _ _) _ _ _ e hq1) (IsQ.stb (IsI.stb _ _) (IsI.stb _ _) _ _ _ e hq2) hK.1 rfl
   have hI := fun w' => Same_t (IsI.nil w' 0) (IsI.nil w' 0) rfl (by decide)
   clear hq1 hq2
   go_upto_region 7 with (fail)
   obtain ⟨w7, hw7⟩ : ∃ ww, World.alloc wr (.cells #[.string name, .int .i64 0, .bool sA, .slice aA nA cA, .bool sB, .slice aB nB cB, .bool false, .bool false, .slice none 0 0] 74) = ww := ⟨_, rfl⟩
   have Xw7 : Ext wr w7 := hw7 ▸ (Ext.refl _).alloc _
   have hlw7 : ∀ (j : Nat) (u : Value), (#[.string name, .int .i64 0, .bool sA, .slice aA nA cA, .bool sB, .slice aB nB cB, .bool false, .bool false, .slice none 0 0] : Array Value)[j]? = some u → World.cell? w7 ⟨World.heap wr |>.size, j, none⟩ = some u := fun j u hj => hw7 ▸ cell_newAt _ _ rfl _ _ _ _ hj
   have hzw7 : (World.heap w7).size = (World.heap wr).size + 1 := by rw [← hw7]; simp
   rw [hw7]
   clear hw7
   have N0 := Ext.cell Xw7 N0
   have M0 := Ext.cell Xw7 M0
   have B0 := Ext.cell Xw7 B0
   have B1 := Ext.cell Xw7 B1
   have B2 := Ext.cell Xw7 B2
   have B3 := Ext.cell Xw7 B3
   have B4 := Ext.cell Xw7 B4
   have B5 := Ext.cell Xw7 B5
   have B6 := Ext.cell Xw7 B6
   have B7 := Ext.cell Xw7 B7
   have B8 := Ext.cell Xw7 B8
   have hR := fun w' (e : Ext w7 w') => hR w' (Xw7.trans e)
   go_upto_region 8 with (fail)
   obtain ⟨w8, hw8⟩ : ∃ ww, World.alloc w7 (.cells #[.string name, .int .i64 0, .bool sC, .slice aC nC cC, .bool sD, .slice aD nD cD, .bool false, .bool false, .slice none 0 0] 74) = ww := ⟨_, rfl⟩
   have Xw8 : Ext w7 w8 := hw8 ▸ (Ext.refl _).alloc _
   have hlw8 : ∀ (j : Nat) (u : Value), (#[.string name, .int .i64 0, .bool sC, .slice aC nC cC, .bool sD, .slice aD nD cD, .bool false, .bool false, .slice none 0 0] : Array Value)[j]? = some u → World.cell? w8 ⟨World.heap w7 |>.size, j, none⟩ = some u := fun j u hj => hw8 ▸ cell_newAt _ _ rfl _ _ _ _ hj
   have hzw8 : (World.heap w8).size = (World.heap w7).size + 1 := by rw [← hw8]; simp
   rw [hw8]
   clear hw8
   simp only [hzw7] at hlw8
   have A0 := Ext.cell Xw8 (hlw7 0 _ rfl)
   have A1 := Ext.cell Xw8 (hlw7 1 _ rfl)
   have A2 := Ext.cell Xw8 (hlw7 2 _ rfl)
   have A3 := Ext.cell Xw8 (hlw7 3 _ rfl)
   have A4 := Ext.cell Xw8 (hlw7 4 _ rfl)
   have A5 := Ext.cell Xw8 (hlw7 5 _ rfl)
   have A6 := Ext.cell Xw8 (hlw7 6 _ rfl)
   have A7 := Ext.cell Xw8 (hlw7 7 _ rfl)
   have A8 := Ext.cell Xw8 (hlw7 8 _ rfl)
   have B0 := hlw8 0 _ rfl
   have B1 := hlw8 1 _ rfl
   have B2 := hlw8 2 _ rfl
   have B3 := hlw8 3 _ rfl
   have B4 := hlw8 4 _ rfl
   have B5 := hlw8 5 _ rfl
   have B6 := hlw8 6 _ rfl
   have B7 := hlw8 7 _ rfl
   have B8 := hlw8 8 _ rfl
   have hR := hR _ Xw8
   have HX := hid (Xw7.trans Xw8)
   clear hlw7 hlw8 hzw7 hzw8 Xw7 Xw8 N0 M0
   go_wp2_with (first | (go_at_call 33; go_must (refine Calls.mono hR ?_; rintro e w9 ⟨_, rfl, E9, rfl⟩; clear hR; have A6 := Ext.cell E9 A6; have A7 := Ext.cell E9 A7; have A8 := Ext.cell E9 A8; have B6 := Ext.cell E9 B6; have B7 := Ext.cell E9 B7; have B8 := Ext.cell E9 B8)) | (go_at_call 26; go_must (refine Calls.mono (hI _) ?_; rintro e w10 ⟨_, rfl, E10, rfl⟩; clear hI)))
   go_roundg 0
   case measure => decide
   case rel => exact ⟨1, rfl, rfl, ((EW.trans HX.out).trans E9).trans E10⟩
end Go.Proofs.YtknffgdbdadpcaaGreatDoor
