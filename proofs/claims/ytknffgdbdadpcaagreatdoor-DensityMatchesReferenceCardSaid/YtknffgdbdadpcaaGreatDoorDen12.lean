/-
 Package genus: Characters, at a discriminant.
 Rows of ints that a call makes whole and fills.
 Package density: Genus, at a discriminant. (Printed by wip/gen/den12.py.)
-/
import Derived.Test.YtknffgdbdadpcaaGreatDoorDen36
namespace Go.Proofs.YtknffgdbdadpcaaGreatDoor
open Go Go.RowKit

/-- A row of ints. -/
def IR (base : Nat) (W : World) (v : Value) (xs : List Int) : Prop := Rwg 3 1 base W v xs.length (xs.map fun x => .int .i64 x)
theorem infoInt : (Tryz.prog.info? 3).map (fun i => (i.zero, i.size, i.bytes)) = some (some (.int .i64 0), 1, 8) := by kernel_rfl
theorem chO_le : ∀ (f p n : Nat), 2 ≤ p → 0 < n → (chO f p n).length ≤ f ∧ ∀ c ∈ chO f p n, 0 < c ∧ c ≤ ((n : Nat) : Int)
 | 0, _, _, _, _ => by simp [chO]
 | f + 1, p, n, hp, hn => by
  unfold chO
  by_cases h1 : n ≤ 1
  ·rw [if_pos h1]; simp
  rw [if_neg h1]
  dsimp only
  obtain ⟨q, hq⟩ : ∃ q, q = if n < p * p then n else p := ⟨_, rfl⟩
  rw [← hq]
  have hq2 : 2 ≤ q := by rw [hq]; split <;> omega
  obtain ⟨m, e, hm, m0⟩ := vl_spec hq2 hn
  have hR : n / q ^ vl q n = m := by
   conv => lhs; lhs; rw [e]
   exact Nat.mul_div_cancel_left m (Nat.pow_pos (by omega))
  rw [hR]
  have hle : m ≤ n := by rw [← hR]; exact Nat.div_le_self _ _
  obtain ⟨h2, h3⟩ := chO_le f (q + 2) m (by omega) m0
  constructor
  ·rw [List.length_append]; split <;> simp <;> omega
  ·intro c hc
   rcases List.mem_append.1 hc with h | h
   ·by_cases hd : n % q = 0
    ·rw [if_pos hd, List.mem_singleton] at h
     subst h
     have := Nat.le_of_dvd hn (Nat.dvd_of_mod_eq_zero hd)
     omega
    ·rw [if_neg hd] at h; cases h
   ·have := h3 c h; omega
theorem chN_le {n : Nat} (hn : 0 < n) : (chN n).length ≤ n + 2 ∧ ∀ c ∈ chN n, (c = -4 ∨ c = 8 ∨ c = -8) ∨ (0 < c ∧ c ≤ ((n : Nat) : Int)) := by
 obtain ⟨m, e, hm, m0⟩ := vl_spec (p := 2) (by decide) hn
 have hR : n / 2 ^ vl 2 n = m := by
  conv => lhs; lhs; rw [e]
  exact Nat.mul_div_cancel_left m (Nat.pow_pos (by decide))
 have hle : m ≤ n := by rw [← hR]; exact Nat.div_le_self _ _
 have h2 : (ch2 n).length ≤ 2 ∧ ∀ c ∈ ch2 n, c = -4 ∨ c = 8 ∨ c = -8 := by
  unfold ch2
  repeat' split
  all_goals simp
 obtain ⟨h3, h4⟩ := chO_le n 3 m (by decide) m0
 unfold chN
 rw [hR]
 constructor
 ·rw [List.length_append]; omega
 ·intro c hc
  rcases List.mem_append.1 hc with h | h
  ·have := h4 c h; right; omega
  ·exact .inl (h2.2 c h)

set_option maxRecDepth 100000 in
set_option maxHeartbeats 8000000 in
theorem Characters_f {k1 n : Nat} {x : Value} {w : World} (hx : IsI k1 (-((n : Nat) : Int)) x w) (l1 : k1 ≤ 16777216) (hn : 1 ≤ n ∧ n ≤ 4194304 ∧ (n % 4 = 0 ∨ n % 4 = 3)) :
  Calls Tryz.prog 53 #[x] w (Ret w (fun r W' => ∃ v, r = .tuple #[v, .int .i64 0] ∧ IR w.heap.size W' v (chN n))) := by
 have hstf : ∀ (a : Addr) (fn : Fn) (first cap : Array Value) (w : World), (store a (.func fn first cap)).run Tryz.prog w = stored Tryz.prog w a (.func fn first cap) .plain := fun a fn first cap w => run_store Tryz.prog w a _ .plain rfl
 have HN := hid hn
 have hb := (chN_le (n := n) (by omega)).1
 obtain ⟨names, hnames⟩ : ∃ l, chN n = l := ⟨_, rfl⟩
 rw [hnames] at hb ⊢
 have HNM := hid hnames
 have HB := hid hb
 obtain ⟨s1, a1, n1, c1, rfl, h1⟩ := hx
 have h1 : IsI k1 (-((n : Nat) : Int)) (.agg #[.bool s1, .slice a1 n1 c1]) w := ⟨_, _, _, _, rfl, h1⟩
 obtain ⟨W, hW, S⟩ : ∃ W, W = w.alloc (.cells #[.bool s1, .slice a1 n1 c1] 33) ∧ Sto w W [((w.heap.size, 0), IsI k1 (-((n : Nat) : Int)))] := ⟨_, rfl, ((Sto.start w).new1 (w.heap.size) (by simp) s1 a1 n1 c1 33 _ (IsI.gstb _ _) h1)⟩
 clear h1 hn hnames hb
 go_enter Tryz.func53, Tryz.ntmps53
 go_upto_region 1 with (fail)
 rw [← hW]
 clear hW
 obtain ⟨s1, a1, n1, c1, B1, h1⟩ := S.at 0 _ _ _ rfl
 have L1a : World.cell? W ⟨w.heap.size, 0, none⟩ = some (.bool s1) := B1.c0
 have L1b : World.cell? W ⟨w.heap.size, 1, none⟩ = some (.slice a1 n1 c1) := B1.c1
 have hcon := right_f h1 l1 HN.out
 have hasg := fun w1 => assigned_f w1 n ⟨HN.out.1, HN.out.2.1⟩
 clear B1
 go_upto_region 6 with (first | (go_at_call 101; go_must (refine Calls.mono hcon ?_; rintro e w1 ⟨_, rfl, E1, _, _, rfl, rfl, rfl⟩)) | (go_at_call 83; go_must (refine Calls.mono (hasg _) ?_; rintro e w2 ⟨v2, rfl, E2, hr2⟩; rw [HNM.out] at hr2; obtain ⟨cells, hrow, hcl, _⟩ := hr2; obtain ⟨ao, cap, rfl, hq1, hq2, hq3, hq4⟩ := hrow.shape)))
 have HQ := hid (And.intro hq1 (And.intro hq2 (And.intro hq3 hq4)))
 have HCL := hid hcl
 have HE := hid ((S.ext.trans E1).trans E2)
 have HROW := hid hrow
 have HSW := hid (show w.heap.size ≤ w2.heap.size from ((S.ext.trans E1).trans E2).size)
 clear hq1 hq2 hq3 hq4 hcl hrow hcon hasg E1 E2 S h1 L1a L1b l1
 go_loopg [6, 20] names.length (fun gk v6 v20 wr => ∃ i : Nat, v20 = .int .i64 ((i : Nat) : Int) ∧ i + gk = names.length ∧ Hid (Rwg 3 1 w2.heap.size wr v6 i ((names.take i).map fun x => .int .i64 x) ∧ Ext w2 wr))
 case atStart => exact ⟨0, rfl, by omega, hid ⟨Rwg.nil _ _ _ _, Ext.refl _⟩⟩
 case round =>
  obtain ⟨i, rfl, hg, HR⟩ := hrel
  rcases Nat.eq_zero_or_pos gk with h0 | h0
  ·obtain rfl : i = names.length := by omega
   have hdec : decide (((names.length : Nat) : Int) < ((names.length : Nat) : Int)) = false := by simp
   clear hg h0
   go_wp2_with fail
   have hrow := HR.out.1.base HSW.out
   rw [List.take_length] at hrow
   exact bodyPost_ret (v := .tuple #[u6, .int .i64 0]) (by simp [results, Tryz.results53, go_sem]) rfl ⟨_, rfl, HE.out.trans HR.out.2, _, rfl, hrow⟩
  ·have hi : i < names.length := by omega
   obtain ⟨c, hc⟩ : ∃ c, names[i]? = some c := ⟨names[i], List.getElem?_eq_getElem hi⟩
   obtain ⟨g, rfl, hgb, hgw, hgc⟩ := HQ.out.2.2.2 (by omega)
   obtain ⟨hc1, fn, fa, fb, hc2⟩ := HCL.out i c hc
   rw [Nat.mul_comm 2 i] at hc1 hc2
   have M1 := HR.out.2.cell (hgc _ _ hc1)
   have M2 := HR.out.2.cell (hgc _ _ hc2)
   have hdec : decide (((i : Nat) : Int) < ((names.length : Nat) : Int)) = true := by simp; omega
   have hq : names.length ≤ cap ∧ cap ≤ 9223372036854775807 := ⟨HQ.out.1, HQ.out.2.1⟩
   have hcapi : i < cap := by omega
   have HG := hid (And.intro hg h0)
   clear hgc hgb hc1 hc2 hg h0
   have hlen : ((names.take i).map fun x => Value.int .i64 x).length = i := by simp; omega
   have hbb := HB.out
   have hn2 := HN.out.2.1
   go_wp2_with (at_builtin; go_must (refine wpl_rwg rfl _ _ 41 rfl w2.heap.size 3 (.int .i64 0) 1 8 (by kernel_rfl) infoInt rfl (by decide) _ _ _ rfl ((HR.out.1.ext ((Ext.refl _).alloc _)).ext ((Ext.refl _).alloc _)) _ 1 _ _ rfl rfl (cells_newE _ _ _ _ (by simp)) (by simp [Value.oneCell']) (by omega) (by omega) (by have h1 := HR.out.2.size; simp; omega) ?_; intro v9 w9 hr9 hg9 hb9))
   have hx := hid (And.intro hr9 (Below.ext ((HR.out.2.alloc _).alloc _) hb9 (Nat.le_refl _)))
   clear hr9 hg9 hb9 M1 M2 hlen hbb hn2
   go_roundg (gk - 1)
   case measure => have := HG.out; omega
   case rel => exact ⟨i + 1, by rw [Int.natCast_add]; rfl, by have := HG.out; omega, hid ⟨by rw [List.take_add_one, hc]; simpa using hx.out.1, hx.out.2⟩⟩
end Go.Proofs.YtknffgdbdadpcaaGreatDoor
namespace Go.Proofs.YtknffgdbdadpcaaGreatDoor
open Go Go.RowKit

def icells (ys : List Int) : Array Value := (ys.map fun x => Value.int .i64 x).toArray
def OwnI (w : World) (g : Nat) (ys : List Int) : Prop := w.heap[g]? = some (.cells (icells ys) 3)
theorem OwnI.lt {w : World} {g : Nat} {ys : List Int} (h : OwnI w g ys) : g < w.heap.size := (Array.getElem?_eq_some_iff.1 h).1
theorem OwnI.cell {w : World} {g : Nat} {ys : List Int} (h : OwnI w g ys) {j : Nat} {y : Int} (hj : ys[j]? = some y) : w.cell? ⟨g, j, none⟩ = some (.int .i64 y) := by
 simp only [World.cell?]
 unfold OwnI at h
 rw [h]
 show (icells ys)[j]? = _
 simp [icells, hj]
theorem OwnI.free {w : World} {g : Nat} {ys : List Int} (h : OwnI w g ys) (j : Nat) : w.frozen? ⟨g, j, none⟩ = false := by
 simp only [World.frozen?]
 unfold OwnI at h
 rw [h]
 simp
theorem OwnI.set {w : World} {g : Nat} {ys : List Int} (h : OwnI w g ys) (i : Nat) (y : Int) : OwnI (w.setCell ⟨g, i, none⟩ (.int .i64 y)) g (ys.set i y) := by
 unfold OwnI at *
 simp only [World.setCell, Array.getElem?_modify, if_true]
 rw [h]
 simp [icells, List.map_set]
theorem OwnI.ext {w w' : World} {g : Nat} {ys : List Int} (h : OwnI w g ys) (e : Ext w w') : OwnI w' g ys := by
 have := Below.block e g h.lt
 unfold OwnI at *
 rw [this]; exact h
theorem OwnI.row {w : World} {g : Nat} {ys : List Int} (h : OwnI w g ys) {base : Nat} (hb : base ≤ g) (hm : ys.length ≤ 9223372036854775807) : IR base w (.slice (some ⟨g, 0, none⟩) ys.length ys.length) ys := by
 refine ⟨by simp, .inr ⟨g, ys.length, icells ys, rfl, hb, h, Nat.le_refl _, hm, by simp [icells], ?_⟩⟩
 simp [icells, ← List.map_take]
theorem wpl_makeI {w : World} {ops : Array Oper} {rest : List Oper} {o : Oper} {a : Act} {Q : Exit → Act → World → Prop}
  (hg : o.guard = none) (l c : Operand) (t : TypeId) (hop : o.op = Op.makeSlice t l c) (ht : Tryz.prog.underlying t = some (.slice 3))
  (L C : Int) (n : Nat) (hl : a.eval l = .int .i64 L) (hc : a.eval c = .int .i64 C) (hL : L = (n : Int)) (hC : C = (n : Int)) (hn : n ≤ 1099511627776)
  (hK : ∀ w', Ext w w' → OwnI w' w.heap.size (List.replicate n 0) → wpList Tryz.prog ops Q rest (a.put o.dst (.slice (some ⟨w.heap.size, 0, none⟩) n n)) w') :
  wpList Tryz.prog ops Q (o :: rest) a w := by
 obtain ⟨i, hi, hz0, hz1, hz2⟩ := info_parts infoInt
 refine wpList_make_full w hg l c t hop w.heap.size 3 i (.int .i64 0) 1 ht hi hz0 hz1 .i64 .i64 L C n hl hc hL hC (by rw [hz2]; omega) (by unfold maxLen; omega) (Nat.le_refl _) ?_
 intro w' hown hgr
 obtain ⟨hlen, h1 | ⟨g, cap, cur, h2, h3, h4, h5, h6, h7, h8⟩⟩ := hown
 ·simp at h1
 ·simp only [Value.slice.injEq, Option.some.injEq, Addr.mk.injEq, and_true, true_and] at h2
  obtain ⟨h2, rfl⟩ := h2
  subst h2
  refine hK w' ⟨hgr.os, hgr.tape, hgr.output, hgr.size, fun k hk => hgr.block k hk (by simp)⟩ ?_
  unfold OwnI
  rw [h4]
  have e1 : cur.toList = List.replicate n (.int .i64 0) := by
   rw [List.take_of_length_le (by simp; omega)] at h8
   rw [h8, show (Value.int IntKind.i64 0).cells = #[.int .i64 0] from rfl, toList_madeCells_one]
   simp
  simp only [icells, List.map_replicate, ← e1, Array.toArray_toList]
theorem IR.ext {base : Nat} {W W' : World} {v : Value} {xs : List Int} (h : IR base W v xs) (E : Ext W W') : IR base W' v xs := Rwg.ext h E
/-- A row of ints, wherever it lies. -/
def IRx (xs : List Int) : Value → World → Prop := fun v W => ∃ base, IR base W v xs
theorem IRx.stb (xs : List Int) : Stb (IRx xs) := fun _ _ _ e ⟨b, h⟩ => ⟨b, h.ext e⟩
theorem IRx.shape {xs : List Int} {v : Value} {W : World} (h : IRx xs v W) : ∃ ao cap, v = .slice ao xs.length cap ∧ xs.length ≤ cap ∧ cap ≤ 9223372036854775807 ∧ (xs ≠ [] → ∃ g, ao = some ⟨g, 0, none⟩ ∧ g < W.heap.size ∧ ∀ j x, xs[j]? = some x → W.cell? ⟨g, j, none⟩ = some (.int .i64 x)) := by
 obtain ⟨b, h⟩ := h
 obtain ⟨ao, cap, h1, h2, h3, h4, h5⟩ := h.shape
 refine ⟨ao, cap, h1, h2, h3, fun hne => ?_⟩
 obtain ⟨g, h6, h7, h8, h9⟩ := h5 (fun h => hne (List.length_eq_zero_iff.1 h))
 exact ⟨g, h6, h8, fun j x hj => h9 j _ (by simp [hj])⟩
theorem Characters_x {k1 n : Nat} {x : Value} {w : World} (hx : IsI k1 (-((n : Nat) : Int)) x w) (l1 : k1 ≤ 16777216) (hn : 1 ≤ n ∧ n ≤ 4194304 ∧ (n % 4 = 0 ∨ n % 4 = 3)) :
  Calls Tryz.prog 53 #[x] w (Ret w (IsT2 (IRx (chN n)) (IsV (.int .i64 0)))) :=
 (Characters_f hx l1 hn).mono fun _ _ ⟨r, h1, h2, v, h3, h4⟩ => ⟨r, h1, h2, v, _, h3, ⟨_, h4⟩, rfl⟩
end Go.Proofs.YtknffgdbdadpcaaGreatDoor
namespace Go.Proofs.YtknffgdbdadpcaaGreatDoor
open Go Go.RowKit

theorem fill_step (f : Int → Int) (names : List Int) (i gk : Nat) (c : Int) (hc : names[i]? = some c) (hi : i < names.length) (h0 : 0 < gk) :
  ((names.take i).map f ++ List.replicate gk 0).set i (f c) = (names.take (i + 1)).map f ++ List.replicate (gk - 1) 0 := by
 obtain ⟨k, rfl⟩ : ∃ k, gk = k + 1 := ⟨gk - 1, by omega⟩
 rw [List.take_add_one, hc, List.map_append, List.replicate_succ, List.set_append_right _ _ (by simp; omega)]
 simp [Nat.min_eq_left (Nat.le_of_lt hi)]

set_option maxRecDepth 100000 in
set_option maxHeartbeats 4000000 in
theorem Genus_c {k1 k2 n L : Nat} {z ue : Int} {x y : Value} {w : World} (hx : IsI k1 (-((n : Nat) : Int)) x w) (hy : IsI k2 z y w) (HK : Hid (k1 ≤ 16777216 ∧ k2 ≤ 16777216)) (HNN : Hid (1 ≤ n ∧ n ≤ 4194304 ∧ (n % 4 = 0 ∨ n % 4 = 3))) (HL : Hid (L * L ≤ n ∧ n < (L + 1) * (L + 1))) (HU : Hid (unsE (cdB n L) z = ue)) (HUB : Hid ((ue != 0) = false)) {gg : Nat} {cv : Int} (HGG : Hid (((Int.gcd z (2 * -((n : Nat) : Int)) : Nat) : Int) = ((gg : Nat) : Int))) (HCV : Hid (cmpI ((gg : Nat) : Int) 1 = cv)) (HCB : Hid ((cv != 0) = true)) : Calls Tryz.prog 14 #[x, y] w (Ret w (IsT2 (IRx []) (IsV (.int .i64 1)))) := by
 obtain ⟨s1, a1, n1, c1, rfl, h1⟩ := hx
 have h1 : IsI _ _ _ w := ⟨_, _, _, _, rfl, h1⟩
 obtain ⟨s2, a2, n2, c2, rfl, h2⟩ := hy
 have h2 : IsI _ _ _ w := ⟨_, _, _, _, rfl, h2⟩
 obtain ⟨W, hW, S⟩ : ∃ W, W = (w.alloc (.cells #[.bool s1, .slice a1 n1 c1] 33)).alloc (.cells #[.bool s2, .slice a2 n2 c2] 33) ∧ Sto w W [((w.heap.size + 1, 0), IsI k2 z), ((w.heap.size, 0), IsI k1 (-((n : Nat) : Int)))] := ⟨_, rfl, (((Sto.start w).new1 (w.heap.size) (by simp) s1 a1 n1 c1 33 (IsI k1 (-((n : Nat) : Int))) (IsI.gstb _ _) (h1)).new1 (w.heap.size + 1) (by simp) s2 a2 n2 c2 33 (IsI k2 z) (IsI.gstb _ _) (h2.ext ((Ext.refl _).alloc _)))⟩
 clear h1 h2
 go_enter Tryz.func14, Tryz.ntmps14
 go_upto_region 1 with (fail)
 rw [← hW]
 clear hW
 refine rgs 4 [some 13, some 14, some 15, some 6] [IsI k1 (-((n : Nat) : Int)), IsI k2 z, IsV (.int .i64 ue), IsV (.int .i64 ue)] [] ?_ ?_
 ·refine Rc (ldI S 1 (w.heap.size) 0 (Od.lit 2) ld_Int) ?_
  refine Rc (ldI S 0 (w.heap.size + 1) 0 (Od.lit 3) ld_Int) ?_
  refine Rc (cl2 (en Tryz.func39) (Od.lc (Φ := IsI k1 (-((n : Nat) : Int))) 0 13) (Od.lc (Φ := IsI k2 z) 1 14) (fun x0 x1 w' hE d0 d1 => (by have hh := unsuitable_f d0 d1 HK.out.1 HK.out.2 HNN.out HL.out; rw [HU.out] at hh; exact hh))) ?_
  refine Rc (mv (Od.lc 2 15)) ?_
  exact RgAll.nil
 intro v W1 e1 hΦ _
 replace S := S.mono e1
 have v3 : v 3 = .int .i64 ue := hΦ 3 (by decide)
 simp only [layL, Act.put, uAx, u0x, u1x, Nat.reduceAdd]
 rw [v3]
 clear v3 hΦ e1
 refine wpList_nil ?_
 go_upto_region 2 with (fail)
 refine rgs 2 [some 16, some 17] [IsV (.int .i64 ue), IsV (.bool false)] [] ?_ ?_
 ·refine Rc (mv (Od.lit 6)) ?_
  refine Rc (bn (r := .bool false) (Od.loc 0 16) Od.con (hr := fun w => by have hx9 := HUB.out; go_simp)) ?_
  exact RgAll.nil
 intro v W2 e1 hΦ _
 replace S := S.mono e1
 have v1 : v 1 = .bool false := hΦ 1 (by decide)
 simp only [layL, Act.put, uAx, u0x, u1x, Nat.reduceAdd]
 rw [v1]
 clear v1 hΦ e1
 refine wpList_nil ?_
 go_upto_region 4 with (fail)
 have hl := hid S.lt; have hw := S.ext.size
 refine rgn 7 [some 19, some 20, some 21, some 22, some 23, some 7, none] [IsI k2 z, IsI 2 2, IsI k1 (-((n : Nat) : Int)), IsI ((2 + k1)) ((2 * -((n : Nat) : Int))), IsI ((max k2 (2 + k1))) (((gg : Nat) : Int)), IsNw W2 1, TT] [5] [none, none, none, none, none, none, some (5, [IsI ((max k2 (2 + k1))) (((gg : Nat) : Int))])] [none, none, none, none, none, none, some 5] 0 ?_ ?_
 ·refine RcK (ldI S 0 (w.heap.size + 1) 0 (Od.lit 3) ld_Int) ?_
  refine RcK (cl1 (en Tryz.func41) Od.con (fun x0 w' hE d0 => by { obtain rfl : x0 = .int .i64 2 := d0; exact Of_f _ 2 (by decide) (by decide) })) ?_
  refine RcK (ldI S 1 (w.heap.size) 0 (Od.lit 2) ld_Int) ?_
  refine RcK (cl2 (en Tryz.func51) (Od.lc (Φ := IsI 2 2) 1 20) (Od.lc (Φ := IsI k1 (-((n : Nat) : Int))) 2 21) (fun x0 x1 w' hE d0 d1 => Mul_f d0 d1 (by decide) (by have := HK.out; omega))) ?_
  refine RcK (cl2 (en Tryz.func50) (Od.lc (Φ := IsI k2 z) 0 19) (Od.lc (Φ := IsI ((2 + k1)) ((2 * -((n : Nat) : Int)))) 3 22) (fun x0 x1 w' hE d0 d1 => (by have hh := Gcd_f d0 d1 (by have := HK.out; omega) (by have := HK.out; omega); rw [HGG.out] at hh; exact hh))) ?_
  refine RcK (alN al_Int) ?_
  refine RcS 5 (sI st_Int (Od.lc (Φ := IsI ((max k2 (2 + k1))) (((gg : Nat) : Int))) 4 23)) ?_
  exact RgAllN.nil
 intro v W3 e1 hΦ hS _
 replace S := S.mono e1
 obtain ⟨g7, v5, q1, S2⟩ := S.addI (hΦ 5 (by decide) rfl) (hS 6 (by decide) _ _ rfl) hw (IsI.gstb _ _)
 replace S := S2 (ApartO.old hl.out q1); clear S2
 simp only [layL, Act.put, uAx, u0x, u1x, Nat.reduceAdd]
 rw [v5]
 clear hl hw v5 hΦ hS e1
 refine wpAny_done (by kernel_rfl) ?_ _
 go_upto_region 5 with (fail)
 refine rg 4 [some 24, some 25, some 26, some 27] [IsI ((max k2 (2 + k1))) (((gg : Nat) : Int)), IsI 2 1, IsV (.int .i64 cv), IsV (.bool true)] [] 0 ?_ ?_
 ·refine Rc (ldI S 0 (g7) 0 (Od.lit 7) ld_Int) ?_
  refine Rc (cl1 (en Tryz.func41) Od.con (fun x0 w' hE d0 => by { obtain rfl : x0 = .int .i64 1 := d0; exact Of_f _ 1 (by decide) (by decide) })) ?_
  refine Rc (cl2 (en Tryz.func52) (Od.lc (Φ := IsI ((max k2 (2 + k1))) (((gg : Nat) : Int))) 0 24) (Od.lc (Φ := IsI 2 1) 1 25) (fun x0 x1 w' hE d0 d1 => Calls.mono (Cmp_f d0 d1 (by have := HK.out; omega) (by decide)) fun _ _ h => h.int HCV.out)) ?_
  refine Rc (bn (r := .bool true) (Od.loc 2 26) Od.con (hr := fun w => by have hx9 := HCB.out; go_simp)) ?_
  exact RgAll.nil
 intro v W4 e1 hΦ _
 replace S := S.mono e1
 have v3 : v 3 = .bool true := hΦ 3 (by decide)
 simp only [layL, Act.put, uAx, u0x, u1x, Nat.reduceAdd]
 rw [v3]
 clear v3 hΦ e1
 refine wpAny_done (by kernel_rfl) ?_ _
 go_upto_region 6 with (fail)
 refine rgs 2 [some 4, some 5] [IsV (.slice none 0 0), IsV (.int .i64 1)] [] ?_ ?_
 ·refine Rc (mv Od.con) ?_
  refine Rc (mv Od.con) ?_
  exact RgAll.nil
 intro v W5 e1 hΦ _
 replace S := S.mono e1
 have v0 : v 0 = .slice none 0 0 := hΦ 0 (by decide)
 have v1 : v 1 = .int .i64 1 := hΦ 1 (by decide)
 simp only [layL, Act.put, uAx, u0x, u1x, Nat.reduceAdd]
 rw [v0, v1]
 clear v0 v1 hΦ e1
 refine wpList_nil ?_
 go_wp2_with fail
 exact bodyPost_ret (v := .tuple #[.slice none 0 0, .int .i64 1]) (by simp [results, Tryz.results14, go_sem]) rfl (⟨_, rfl, S.ext, ⟨_, _, rfl, ⟨0, Rwg.nil _ _ _ _⟩, rfl⟩⟩)

set_option maxRecDepth 100000 in
set_option maxHeartbeats 4000000 in
theorem Genus_k {k1 k2 n L : Nat} {m : Nat} {ue : Int} {x y : Value} {w : World} (hx : IsI k1 (-((n : Nat) : Int)) x w) (hy : IsI k2 ((m : Nat) : Int) y w) (HK : Hid (k1 ≤ 16777216 ∧ k2 ≤ 16777216)) (HNN : Hid (1 ≤ n ∧ n ≤ 4194304 ∧ (n % 4 = 0 ∨ n % 4 = 3))) (HL : Hid (L * L ≤ n ∧ n < (L + 1) * (L + 1))) (HU : Hid (unsE (cdB n L) ((m : Nat) : Int) = ue)) (HUB : Hid ((ue != 0) = false)) {gg : Nat} {cv : Int} (HGG : Hid (((Int.gcd ((m : Nat) : Int) (2 * -((n : Nat) : Int)) : Nat) : Int) = ((gg : Nat) : Int))) (HCV : Hid (cmpI ((gg : Nat) : Int) 1 = cv)) (HCB : Hid ((cv != 0) = false)) {names : List Int} (HNM : Hid (chN n = names)) (HM : Hid (0 < m ∧ m ≤ 1048576)) (HSG : Hid (Sg w)) : Calls Tryz.prog 14 #[x, y] w (Ret w (IsT2 (IRx (names.map fun c => chV c m)) (IsV (.int .i64 0)))) := by
 obtain ⟨s1, a1, n1, c1, rfl, h1⟩ := hx
 have h1 : IsI _ _ _ w := ⟨_, _, _, _, rfl, h1⟩
 obtain ⟨s2, a2, n2, c2, rfl, h2⟩ := hy
 have h2 : IsI _ _ _ w := ⟨_, _, _, _, rfl, h2⟩
 obtain ⟨W, hW, S⟩ : ∃ W, W = (w.alloc (.cells #[.bool s1, .slice a1 n1 c1] 33)).alloc (.cells #[.bool s2, .slice a2 n2 c2] 33) ∧ Sto w W [((w.heap.size + 1, 0), IsI k2 ((m : Nat) : Int)), ((w.heap.size, 0), IsI k1 (-((n : Nat) : Int)))] := ⟨_, rfl, (((Sto.start w).new1 (w.heap.size) (by simp) s1 a1 n1 c1 33 (IsI k1 (-((n : Nat) : Int))) (IsI.gstb _ _) (h1)).new1 (w.heap.size + 1) (by simp) s2 a2 n2 c2 33 (IsI k2 ((m : Nat) : Int)) (IsI.gstb _ _) (h2.ext ((Ext.refl _).alloc _)))⟩
 clear h1 h2
 go_enter Tryz.func14, Tryz.ntmps14
 go_upto_region 1 with (fail)
 rw [← hW]
 clear hW
 refine rgs 4 [some 13, some 14, some 15, some 6] [IsI k1 (-((n : Nat) : Int)), IsI k2 ((m : Nat) : Int), IsV (.int .i64 ue), IsV (.int .i64 ue)] [] ?_ ?_
 ·refine Rc (ldI S 1 (w.heap.size) 0 (Od.lit 2) ld_Int) ?_
  refine Rc (ldI S 0 (w.heap.size + 1) 0 (Od.lit 3) ld_Int) ?_
  refine Rc (cl2 (en Tryz.func39) (Od.lc (Φ := IsI k1 (-((n : Nat) : Int))) 0 13) (Od.lc (Φ := IsI k2 ((m : Nat) : Int)) 1 14) (fun x0 x1 w' hE d0 d1 => (by have hh := unsuitable_f d0 d1 HK.out.1 HK.out.2 HNN.out HL.out; rw [HU.out] at hh; exact hh))) ?_
  refine Rc (mv (Od.lc 2 15)) ?_
  exact RgAll.nil
 intro v W1 e1 hΦ _
 replace S := S.mono e1
 have v3 : v 3 = .int .i64 ue := hΦ 3 (by decide)
 simp only [layL, Act.put, uAx, u0x, u1x, Nat.reduceAdd]
 rw [v3]
 clear v3 hΦ e1
 refine wpList_nil ?_
 go_upto_region 2 with (fail)
 refine rgs 2 [some 16, some 17] [IsV (.int .i64 ue), IsV (.bool false)] [] ?_ ?_
 ·refine Rc (mv (Od.lit 6)) ?_
  refine Rc (bn (r := .bool false) (Od.loc 0 16) Od.con (hr := fun w => by have hx9 := HUB.out; go_simp)) ?_
  exact RgAll.nil
 intro v W2 e1 hΦ _
 replace S := S.mono e1
 have v1 : v 1 = .bool false := hΦ 1 (by decide)
 simp only [layL, Act.put, uAx, u0x, u1x, Nat.reduceAdd]
 rw [v1]
 clear v1 hΦ e1
 refine wpList_nil ?_
 go_upto_region 4 with (fail)
 have hl := hid S.lt; have hw := S.ext.size
 refine rgn 7 [some 19, some 20, some 21, some 22, some 23, some 7, none] [IsI k2 ((m : Nat) : Int), IsI 2 2, IsI k1 (-((n : Nat) : Int)), IsI ((2 + k1)) ((2 * -((n : Nat) : Int))), IsI ((max k2 (2 + k1))) (((gg : Nat) : Int)), IsNw W2 1, TT] [5] [none, none, none, none, none, none, some (5, [IsI ((max k2 (2 + k1))) (((gg : Nat) : Int))])] [none, none, none, none, none, none, some 5] 0 ?_ ?_
 ·refine RcK (ldI S 0 (w.heap.size + 1) 0 (Od.lit 3) ld_Int) ?_
  refine RcK (cl1 (en Tryz.func41) Od.con (fun x0 w' hE d0 => by { obtain rfl : x0 = .int .i64 2 := d0; exact Of_f _ 2 (by decide) (by decide) })) ?_
  refine RcK (ldI S 1 (w.heap.size) 0 (Od.lit 2) ld_Int) ?_
  refine RcK (cl2 (en Tryz.func51) (Od.lc (Φ := IsI 2 2) 1 20) (Od.lc (Φ := IsI k1 (-((n : Nat) : Int))) 2 21) (fun x0 x1 w' hE d0 d1 => Mul_f d0 d1 (by decide) (by have := HK.out; omega))) ?_
  refine RcK (cl2 (en Tryz.func50) (Od.lc (Φ := IsI k2 ((m : Nat) : Int)) 0 19) (Od.lc (Φ := IsI ((2 + k1)) ((2 * -((n : Nat) : Int)))) 3 22) (fun x0 x1 w' hE d0 d1 => (by have hh := Gcd_f d0 d1 (by have := HK.out; omega) (by have := HK.out; omega); rw [HGG.out] at hh; exact hh))) ?_
  refine RcK (alN al_Int) ?_
  refine RcS 5 (sI st_Int (Od.lc (Φ := IsI ((max k2 (2 + k1))) (((gg : Nat) : Int))) 4 23)) ?_
  exact RgAllN.nil
 intro v W3 e1 hΦ hS _
 replace S := S.mono e1
 obtain ⟨g7, v5, q1, S2⟩ := S.addI (hΦ 5 (by decide) rfl) (hS 6 (by decide) _ _ rfl) hw (IsI.gstb _ _)
 replace S := S2 (ApartO.old hl.out q1); clear S2
 simp only [layL, Act.put, uAx, u0x, u1x, Nat.reduceAdd]
 rw [v5]
 clear hl hw v5 hΦ hS e1
 refine wpAny_done (by kernel_rfl) ?_ _
 go_upto_region 5 with (fail)
 refine rg 4 [some 24, some 25, some 26, some 27] [IsI ((max k2 (2 + k1))) (((gg : Nat) : Int)), IsI 2 1, IsV (.int .i64 cv), IsV (.bool false)] [] 0 ?_ ?_
 ·refine Rc (ldI S 0 (g7) 0 (Od.lit 7) ld_Int) ?_
  refine Rc (cl1 (en Tryz.func41) Od.con (fun x0 w' hE d0 => by { obtain rfl : x0 = .int .i64 1 := d0; exact Of_f _ 1 (by decide) (by decide) })) ?_
  refine Rc (cl2 (en Tryz.func52) (Od.lc (Φ := IsI ((max k2 (2 + k1))) (((gg : Nat) : Int))) 0 24) (Od.lc (Φ := IsI 2 1) 1 25) (fun x0 x1 w' hE d0 d1 => Calls.mono (Cmp_f d0 d1 (by have := HK.out; omega) (by decide)) fun _ _ h => h.int HCV.out)) ?_
  refine Rc (bn (r := .bool false) (Od.loc 2 26) Od.con (hr := fun w => by have hx9 := HCB.out; go_simp)) ?_
  exact RgAll.nil
 intro v W4 e1 hΦ _
 replace S := S.mono e1
 have v3 : v 3 = .bool false := hΦ 3 (by decide)
 simp only [layL, Act.put, uAx, u0x, u1x, Nat.reduceAdd]
 rw [v3]
 clear v3 hΦ e1
 refine wpAny_done (by kernel_rfl) ?_ _
 go_upto_region 7 with (fail)
 refine rgs 7 [some 29, some 30, some 28, some 31, some 32, some 8, some 9] [IsI k1 (-((n : Nat) : Int)), IsT2 (IRx names) (IsV (.int .i64 0)), IsT2 (IRx names) (IsV (.int .i64 0)), IRx names, IsV (.int .i64 0), IRx names, IsV (.int .i64 0)] [] ?_ ?_ (hst := by repeat' (first | exact trivial | exact IRx.stb _ | exact IsV.stb _ | exact IsI.stb _ _ | exact IsBo.stb _ _ | apply IsT2.stb | apply IsT3.stb | apply IsJ.stb | apply IsQ.stb | apply And.intro))
 ·refine Rc (ldI S 2 (w.heap.size) 0 (Od.lit 2) ld_Int) ?_
  refine Rc (cl1 (en Tryz.func53) (Od.lc (Φ := IsI k1 (-((n : Nat) : Int))) 0 29) (fun x0 w' hE d0 => (by have hh := Characters_x d0 HK.out.1 HNN.out; rw [HNM.out] at hh; exact hh))) ?_
  refine Rc (mv (Od.lc 1 30)) ?_
  refine Rc (ex (Od.loc 2 28) t20) ?_
  refine Rc (ex (Od.loc 2 28) t21) ?_
  refine Rc (mv (Od.lc 3 31)) ?_
  refine Rc (mv (Od.lc 4 32)) ?_
  exact RgAll.nil
 intro v W5 e1 hΦ _
 replace S := S.mono e1
 obtain ⟨u8, hu8, k8⟩ : ∃ vv_, v 5 = vv_ ∧ (IRx names) vv_ W5 := ⟨_, rfl, hΦ 5 (by decide)⟩
 have v6 : v 6 = .int .i64 0 := hΦ 6 (by decide)
 simp only [layL, Act.put, uAx, u0x, u1x, Nat.reduceAdd]
 rw [hu8, v6]
 clear hu8 v6 hΦ e1
 refine wpList_nil ?_
 go_upto_region 8 with (fail)
 obtain ⟨ao, cap, rfl, hq1, hq2, hq4⟩ := k8.shape
 have HE := hid S.ext
 have HQ := hid hq4
 have hlen := (chN_le (n := n) HNN.out.1).1
 rw [HNM.out] at hlen
 have HB := hid hlen
 have hnn := HNN.out.2.1
 have hlc : names.length ≤ cap ∧ cap ≤ 9223372036854775807 := ⟨hq1, hq2⟩
 have S5 := hid S
 clear hq4 k8 hq1 hq2
 go_wp2_with (at_make; refine wpl_makeI rfl _ _ _ rfl (by kernel_rfl) _ _ names.length rfl rfl (by first | rfl | omega) (by first | rfl | omega) (by omega) ?_; intro w6 E6 o6)
 clear hlen hnn
 have HO := hid o6
 have HE6 := hid E6
 go_loopg [38] names.length (fun gk v38 wr => ∃ i : Nat, v38 = .int .i64 ((i : Nat) : Int) ∧ i + gk = names.length ∧ Hid (OwnI wr W5.heap.size ((names.take i).map (fun c => chV c m) ++ List.replicate gk 0) ∧ Ext W5 wr))
 case atStart => exact ⟨0, rfl, by omega, hid ⟨by simpa using o6, E6⟩⟩
 case round =>
  clear o6 E6 S
  obtain ⟨i, rfl, hg, HR⟩ := hrel
  rcases Nat.eq_zero_or_pos gk with h0 | h0
  ·obtain rfl : i = names.length := by omega
   have hdec : decide (((names.length : Nat) : Int) < ((names.length : Nat) : Int)) = false := by simp
   clear hg
   go_wp2_with fail
   have hO := HR.out.1
   rw [List.take_length, h0] at hO
   simp only [List.replicate_zero, List.append_nil] at hO
   have hrow := hO.row (base := 0) (Nat.zero_le _) (by have := HB.out; have := HNN.out.2.1; simp; omega)
   rw [List.length_map] at hrow
   exact bodyPost_ret (v := .tuple #[.slice (some ⟨W5.heap.size, 0, none⟩) names.length names.length, .int .i64 0]) (by simp [results, Tryz.results14, go_sem]) rfl ⟨_, rfl, HE.out.trans HR.out.2, _, _, rfl, ⟨0, hrow⟩, rfl⟩
  ·have hi : i < names.length := by omega
   obtain ⟨c, hc⟩ : ∃ c, names[i]? = some c := ⟨names[i], List.getElem?_eq_getElem hi⟩
   obtain ⟨g, rfl, hgw, hgc⟩ := HQ.out (by rintro rfl; simp at hi)
   have M1 := HR.out.2.cell (hgc _ _ hc)
   have S6 := S5.out.mono HR.out.2
   obtain ⟨s2, a2, n2, c2, B2, h2⟩ := S6.at 1 _ _ _ rfl
   have L2a : World.cell? wr ⟨w.heap.size + 1, 0, none⟩ = some (.bool s2) := B2.c0
   have L2b : World.cell? wr ⟨w.heap.size + 1, 1, none⟩ = some (.slice a2 n2 c2) := B2.c1
   have hdec : decide (((i : Nat) : Int) < ((names.length : Nat) : Int)) = true := by simp; omega
   have HG := hid (And.intro hg h0)
   have hcb := (chN_le (n := n) HNN.out.1).2 c (by rw [HNM.out]; exact List.mem_of_getElem? hc)
   have hcon := value_f h2 (by have := HK.out; omega) (HSG.out.ext (HE.out.trans HR.out.2)) (by have := HM.out; omega) c (by rcases hcb with h | h; exact .inl h; exact .inr (by have := HNN.out; omega))
   have hcap2 : i < cap := by omega
   clear hcb B2 hg h0
   go_wp2_with (go_at_call 54; go_must (refine Calls.mono hcon ?_; rintro e w8 ⟨_, rfl, E8, rfl⟩; have hO8 := HR.out.1.ext E8; have C8 := hO8.cell (j := i) (y := 0) (by rw [List.getElem?_append, if_neg (by simp; omega), List.length_map, List.length_take, Nat.min_eq_left (Nat.le_of_lt hi), Nat.sub_self]; exact List.getElem?_replicate_of_lt HG.out.2); have F8 := hO8.free i))
   have HX := hid (And.intro (hO8.set i (chV c m)) ((HR.out.2.trans E8).set (p := ⟨W5.heap.size, i, none⟩) (Nat.le_refl _) (.int .i64 (chV c m))))
   have HC := hid (And.intro hc hi)
   clear hO8 C8 F8 E8 M1 hgc hc
   go_roundg (gk - 1)
   case measure => have := HG.out; omega
   case rel => exact ⟨i + 1, by rw [Int.natCast_add]; rfl, by have := HG.out; omega, hid ⟨by rw [← fill_step (fun c => chV c m) names i gk c HC.out.1 HC.out.2 HG.out.2]; exact HX.out.1, HX.out.2⟩⟩
end Go.Proofs.YtknffgdbdadpcaaGreatDoor
