/-
  The law NotebookLimits: deep expressions. (Printed by wip/gen/nr9.py.)
  The law NotebookLimits in plain words: which deep expressions, and which long lists, are right.
  NotebookJoins, plain part and memory: the second notebook's cells under other names behind the first's.
  The law NotebookJoins at every input. (Printed by wip/gen/njo.py.)
-/
import Derived.Test.YtenhciieboegbaaGreatDoorNr8
import Derived.Test.YtenhciieboegbaaGreatDoorNr1
import Derived.Test.YtenhciieboegbaaGreatDoorNsn
import Derived.Test.YtenhciieboegbaaGreatDoorRText
import Derived.Test.YtenhciieboegbaaGreatDoorNr5
namespace Go.Proofs.YtenhciieboegbaaGreatDoor
open Go Go.RowKit Go.Maps
theorem nd_any {B B' : Nat} {w : World} {x : Nd} {us : List Value} (h : NdC B w x us) (hp : x.ps = []) : NdC B' w x us := by
  have h0 := h.bd
  obtain ⟨s, a, m, c, ao, cp, h1, h2, h3, h4, -⟩ := h.out
  exact NdC.mk' ⟨h0.1, h0.2.1, h0.2.2⟩ h1 h2 h3 h4 (fun hne => absurd hp hne)
/-- A box with an expression, its parts in blocks from B on. -/
structure BxE (B g : Nat) (e : Ex) (us : List Value) (w : World) : Prop where
  b : Bk w g us
  l : us.length = 8
  o : us.all (fun u => u.oneCell') = true
  n : ∀ v ∈ us, NoWord v
  d : NdC B w (ndE e) us
theorem BxE.ext {B g : Nat} {e : Ex} {us : List Value} {w w' : World} (h : BxE B g e us w) (E : Ext w w') : BxE B g e us w' := ⟨h.b.ext E, h.l, h.o, h.n, h.d.ext E⟩
theorem BxE.ob {B g g' : Nat} {e : Ex} {us : List Value} {w w' : World} (h : BxE B g e us w) (O : OnlyB g' w w') (h1 : g ≠ g') (h2 : g' < B) : BxE B g e us w' := ⟨O.bk h.b h1, h.l, h.o, h.n, h.d.ob (Ob.only O) h2⟩
theorem BxE.hl {B g : Nat} {e : Ex} {us : List Value} {w : World} (h : BxE B g e us w) : NhL B 0 e (.agg us.toArray) w := ⟨us, rfl, h.l, h.o, h.n, h.d⟩
def cA : Ex := .cell ⟨#[97]⟩
def dpE (left : Bool) : Nat → Ex
  | 0 => .num 1
  | j + 1 => if left then .bin 4 (dpE left j) cA else .bin 4 cA (dpE left j)
section
variable {P : Program} {ops : Array Oper} {Q : Exit → Act → World → Prop} {ds : List (Option Tmp)} {a0 : Act} {w0 : World} {L : List (Value → World → Prop)} {boxes : List Nat} {i k : Nat} {o : Oper} {os : List Oper}
theorem ldBx {B g : Nat} {e : Ex} {us : List Value} {x : Operand} (h : BxE B g e us w0) (hx : Od ops ds a0 w0 L i x (IsV (.pointer (some ⟨g, 0, none⟩)))) (ho : o.op = .load 32 x := by rfl) (hi : L.getD i (fun _ _ => True) = NhL B 0 e := by kernel_rfl) (hb : boxes.contains i = false := by kernel_rfl) : Ok Tryz.prog ops Q ds a0 w0 L boxes i o :=
  lv (Φ := NhL B 0 e) (.agg us.toArray) (fun w' E => ld_Nd w' g us h.l (h.b.ext E)) hx (fun _w' E => (h.ext E).hl) ho hi hb
end
section
set_option maxRecDepth 100000
set_option maxHeartbeats 8000000
theorem deep_f {w : World} {n : Nat} (left : Bool) (h1 : 1 ≤ n) (h2 : n ≤ 1000) : Calls Tryz.prog 16 #[.int .i64 (n : Int), .bool left] w (Ret w (NhL 0 0 (dpE left (n - 1)))) := by
  have HN := hid (And.intro h1 h2)
  obtain ⟨W, hW, E, B4⟩ : ∃ W, W = w.alloc (.cells #[.int .i64 0, .string ⟨#[]⟩, .int .i64 0, .bool false, .slice none 0 0, .int .i64 0, .int .i64 0, .slice none 0 0] 32) ∧ Ext w W ∧ Bk W w.heap.size zNd := ⟨_, rfl, (Ext.refl w).alloc _, Bk.new w _ _⟩
  clear h1 h2
  go_enter Tryz.func16, Tryz.ntmps16
  go_upto_region 1 with (fail)
  rw [← hW]
  clear hW
  refine rgs 3 [some 8, some 9, some 10] [IsI 2 1, NeL 0 (.num 1), NeL 0 cA] [] ?_ ?_ (hst := by repeat' (first | exact trivial | exact IsI.stb _ _ | exact NeL.stb _ _ | apply And.intro))
  · refine Rc (cl1 (Φ := IsV (.int .i64 1)) (Χ := IsI 2 1) (en Tryz.func31) Od.con (fun x0 w' hE d0 => by { obtain rfl : x0 = .int .i64 1 := d0; exact ROf_f w' 1 (by decide) (by decide) })) ?_
    refine Rc (bdNum (B := 0) (Od.lc (Φ := IsI 2 1) 0 8)) ?_
    refine Rc (bdLeaf2 (B := 0) (op := 2) (s := ⟨#[97]⟩) Od.con Od.con (.inr ⟨rfl, rfl⟩) (by decide)) ?_
    exact RgAll.nil
  intro v X1 e1 hΦ _
  obtain ⟨us5, hv5, hl5, ho5, hn5, hd5⟩ := hΦ 1 (by decide)
  obtain ⟨us6, hv6, hl6, ho6, hn6, hd6⟩ := hΦ 2 (by decide)
  simp only [layL, Act.put, List.setIfInBounds_toArray, List.set_cons_zero, List.set_cons_succ, Nat.reduceAdd]
  rw [hv5, hv6]
  have E1 := E.trans e1
  have B41 := B4.ext e1
  clear hΦ hv5 hv6 E e1 B4
  refine stL (fun K hK => ?_)
  refine wp_alB (vs := zNd) al_Nd (fun Bn e3 => hK _ _ ?_)
  obtain ⟨g5, hg5⟩ : ∃ g, X1.heap.size = g := ⟨_, rfl⟩
  rw [hg5] at Bn ⊢
  generalize X1.alloc (.cells zNd.toArray 32) = Y1 at Bn e3 ⊢
  clear hK K
  try go_simp
  refine stL (fun K hK => ?_)
  refine wp_alB (vs := zNd) al_Nd (fun Bm e4 => hK _ _ ?_)
  obtain ⟨g6, hg6⟩ : ∃ g, Y1.heap.size = g := ⟨_, rfl⟩
  rw [hg6] at Bm ⊢
  generalize Y1.alloc (.cells zNd.toArray 32) = Y2 at Bm e4 ⊢
  clear hK K
  try go_simp
  have hlt56 : g5 < g6 := by rw [← hg6]; exact Bn.lt
  refine stL (fun K hK => ?_)
  refine stVO (us := us5) (Bn.ext e4) st_Nd rfl hl5 nwZN (fun Y3 C5 O1 => hK _ _ ?_) (ho1 := ho5)
  clear hK K
  try go_simp
  refine stL (fun K hK => ?_)
  refine stVO (us := us6) (O1.bk Bm (by omega)) st_Nd rfl hl6 nwZN (fun Y4 C6 O2 => hK _ _ ?_) (ho1 := ho6)
  clear hK K
  try go_simp
  have hlt4 : w.heap.size < g5 := by rw [← hg5]; exact B41.lt
  have hsz2 : Y2.heap.size ≤ Y4.heap.size := by rw [O2.size, O1.size]; exact Nat.le_refl _
  have hlt6 : g6 < Y4.heap.size := Nat.lt_of_lt_of_le Bm.lt hsz2
  obtain ⟨Bs, hBs⟩ : ∃ b, Y4.heap.size = b := ⟨_, rfl⟩
  rw [hBs] at hlt6
  have HG := hid (show w.heap.size < g5 ∧ g5 < g6 ∧ g6 < Bs from ⟨hlt4, hlt56, hlt6⟩)
  have E4 : Ext w Y4 := O2.ext (O1.ext ((E1.trans e3).trans e4) (by omega)) (by omega)
  have Q5 : NdC Bs Y4 (ndE (.num 1)) us5 := ((nd_any (B' := Bs) (NdC.ext (e3.trans e4) hd5) rfl).ob (g := g5) (Ob.only O1) (by omega)).ob (g := g6) (Ob.only O2) (by omega)
  have Q6 : NdC Bs Y4 (ndE cA) us6 := ((nd_any (B' := Bs) (NdC.ext (e3.trans e4) hd6) rfl).ob (g := g5) (Ob.only O1) (by omega)).ob (g := g6) (Ob.only O2) (by omega)
  have HS := hid (show Ext w Y4 ∧ Bs ≤ Y4.heap.size ∧ BxE Bs g5 (.num 1) us5 Y4 ∧ BxE Bs g6 cA us6 Y4 ∧ Bk Y4 w.heap.size zNd from ⟨E4, by omega, ⟨O2.bk C5 (by omega), hl5, ho5, hn5, Q5⟩, ⟨C6, hl6, ho6, hn6, Q6⟩, O2.bk (O1.bk ((B41.ext e3).ext e4) (by omega)) (by omega)⟩)
  clear E1 B41 hl5 ho5 hn5 hd5 hl6 ho6 hn6 hd6 Bn e3 hg5 Bm e4 hg6 hlt56 C5 O1 C6 O2 hlt4 hsz2 hlt6 hBs E4 Q5 Q6
  refine wpList_nil ?_
  go_wp2_with fail
  go_loopg [7] (n - 1) (fun gk v7 wr => ∃ j : Nat, v7 = .int .i64 (((j + 1 : Nat)) : Int) ∧ j + 1 + gk = n ∧ Hid (∃ us us', Ext w wr ∧ Bs ≤ wr.heap.size ∧ BxE Bs g5 (dpE left j) us wr ∧ BxE Bs g6 cA us' wr ∧ Bk wr w.heap.size zNd))
  case atStart => exact ⟨0, rfl, by have := HN.out; omega, hid ⟨us5, us6, HS.out⟩⟩
  case round =>
    obtain ⟨j, rfl, hg, S⟩ := hrel
    obtain ⟨us, us', S1, S2, S3, S4, S5⟩ := S.out
    have HJ := hid hg
    by_cases hi : j + 1 < n
    · have hil : (((j + 1 : Nat)) : Int) < (n : Int) := by omega
      have hil2 : (j : Int) + 1 < (n : Int) := by omega
      have hiw : IntKind.i64.wrap ((((j + 1 : Nat)) : Int) + 1) = ((j + 1 + 1 : Nat) : Int) := by have := HN.out; simp only [IntKind.wrap_i64]; omega
      have hiw2 : IntKind.i64.wrap ((j : Int) + 1 + 1) = ((j + 1 + 1 : Nat) : Int) := by have := HN.out; simp only [IntKind.wrap_i64]; omega
      have HI := hid hi
      clear hg S hi
      cases left with
      | true =>
        go_upto_region 6 with (fail)
        refine rgs 4 [some 17, some 18, some 19, some 20] [NhL Bs 0 (dpE true j), NhL Bs 0 (cA), NsL Bs 0 [dpE true j, cA], NeL Bs (.bin 4 (dpE true j) (cA))] [] ?_ ?_ (hst := by repeat' (first | exact trivial | exact NhL.stb _ _ _ | exact NsL.stb _ _ _ | exact NeL.stb _ _ | apply And.intro))
        · refine Rc (ldBx S3 (Od.lit 5)) ?_
          refine Rc (ldBx S4 (Od.lit 6)) ?_
          refine Rc (bs2L (Od.lc (Φ := NhL Bs 0 (dpE true j)) 0 17) (Od.lc (Φ := NhL Bs 0 (cA)) 1 18) S2) ?_
          refine Rc (bdBin (op := 4) (p := dpE true j) (q := cA) Od.con (Od.lc (Φ := NsL Bs 0 [dpE true j, cA]) 2 19) (Nat.zero_le _)) ?_
          exact RgAll.nil
        intro v X2 e2 hΦ _
        obtain ⟨us2, hv2, hl2, ho2, hn2, hd2⟩ := hΦ 3 (by decide)
        simp only [layL, Act.put, List.setIfInBounds_toArray, List.set_cons_zero, List.set_cons_succ, Nat.reduceAdd]
        rw [hv2]
        clear hΦ hv2
        refine stL (fun K hK => ?_)
        refine stVO (us := us2) (S3.b.ext e2) st_Nd S3.l hl2 S3.n (fun X3 B9 O => hK _ _ ?_) (ho1 := ho2)
        clear hK K
        try go_simp
        have HS2 := hid (show Ext w X3 ∧ Bs ≤ X3.heap.size ∧ BxE Bs g5 (dpE true (j + 1)) us2 X3 ∧ BxE Bs g6 cA us' X3 ∧ Bk X3 w.heap.size zNd from ⟨O.ext (S1.trans e2) (by have := HG.out; omega), by rw [O.size]; exact Nat.le_trans S2 e2.size, ⟨B9, hl2, ho2, hn2, hd2.ob (Ob.only O) (by have := HG.out; omega)⟩, (S4.ext e2).ob O (by have := HG.out; omega) (by have := HG.out; omega), O.bk (S5.ext e2) (by have := HG.out; omega)⟩)
        clear e2 hl2 ho2 hn2 hd2 B9 O S1 S2 S3 S4 S5
        refine wpList_nil ?_
        go_wp2_with fail
        go_roundg (gk - 1)
        case measure => have := HI.out; have := HJ.out; omega
        case rel => exact ⟨j + 1, rfl, by have := HI.out; have := HJ.out; omega, hid ⟨us2, us', HS2.out⟩⟩
      | false =>
        go_upto_region 7 with (fail)
        refine rgs 4 [some 21, some 22, some 23, some 24] [NhL Bs 0 (cA), NhL Bs 0 (dpE false j), NsL Bs 0 [cA, dpE false j], NeL Bs (.bin 4 (cA) (dpE false j))] [] ?_ ?_ (hst := by repeat' (first | exact trivial | exact NhL.stb _ _ _ | exact NsL.stb _ _ _ | exact NeL.stb _ _ | apply And.intro))
        · refine Rc (ldBx S4 (Od.lit 6)) ?_
          refine Rc (ldBx S3 (Od.lit 5)) ?_
          refine Rc (bs2L (Od.lc (Φ := NhL Bs 0 (cA)) 0 21) (Od.lc (Φ := NhL Bs 0 (dpE false j)) 1 22) S2) ?_
          refine Rc (bdBin (op := 4) (p := cA) (q := dpE false j) Od.con (Od.lc (Φ := NsL Bs 0 [cA, dpE false j]) 2 23) (Nat.zero_le _)) ?_
          exact RgAll.nil
        intro v X2 e2 hΦ _
        obtain ⟨us2, hv2, hl2, ho2, hn2, hd2⟩ := hΦ 3 (by decide)
        simp only [layL, Act.put, List.setIfInBounds_toArray, List.set_cons_zero, List.set_cons_succ, Nat.reduceAdd]
        rw [hv2]
        clear hΦ hv2
        refine stL (fun K hK => ?_)
        refine stVO (us := us2) (S3.b.ext e2) st_Nd S3.l hl2 S3.n (fun X3 B9 O => hK _ _ ?_) (ho1 := ho2)
        clear hK K
        try go_simp
        have HS2 := hid (show Ext w X3 ∧ Bs ≤ X3.heap.size ∧ BxE Bs g5 (dpE false (j + 1)) us2 X3 ∧ BxE Bs g6 cA us' X3 ∧ Bk X3 w.heap.size zNd from ⟨O.ext (S1.trans e2) (by have := HG.out; omega), by rw [O.size]; exact Nat.le_trans S2 e2.size, ⟨B9, hl2, ho2, hn2, hd2.ob (Ob.only O) (by have := HG.out; omega)⟩, (S4.ext e2).ob O (by have := HG.out; omega) (by have := HG.out; omega), O.bk (S5.ext e2) (by have := HG.out; omega)⟩)
        clear e2 hl2 ho2 hn2 hd2 B9 O S1 S2 S3 S4 S5
        refine wpList_nil ?_
        go_wp2_with fail
        go_roundg (gk - 1)
        case measure => have := HI.out; have := HJ.out; omega
        case rel => exact ⟨j + 1, rfl, by have := HI.out; have := HJ.out; omega, hid ⟨us2, us', HS2.out⟩⟩
    · have hil : ¬ (((j + 1 : Nat)) : Int) < (n : Int) := by omega
      have hil2 : ¬ (j : Int) + 1 < (n : Int) := by omega
      have hj : n - 1 = j := by omega
      clear hg S hi HJ
      rw [hj]
      go_upto_region 8 with (fail)
      refine wp_region_lit ?_
      refine stL (fun K hK => wp_ld (p := .pointer (some ⟨g5, 0, none⟩)) (u := .agg us.toArray) (ld_Nd _ g5 us S3.l S3.b) (hK _ _ ?_))
      clear hK K
      try go_simp
      refine stL (fun K hK => ?_)
      refine stVO (us := us) S5 st_Nd rfl S3.l nwZN (fun W9 B9 O => hK _ _ ?_) (ho1 := S3.o)
      have E9 := O.ext S1 (Nat.le_refl _)
      have hd9 := (S3.d.ob (Ob.only O) (by have := HG.out; omega)).low (Nat.zero_le _)
      have hr9 := S3
      clear hK K O
      refine wpList_nil ?_
      go_wp2_with fail
      exact bodyPost_ret (resC Tryz.results16 rfl (lvM (by kernel_rfl) (by kernel_rfl) hr9.l B9)) rfl ⟨_, rfl, E9, us, rfl, hr9.l, hr9.o, hr9.n, hd9⟩
end
end Go.Proofs.YtenhciieboegbaaGreatDoor
namespace Go.Proofs.YtenhciieboegbaaGreatDoor
open Go Go.RowKit
theorem hg_le {k k' : Nat} (h : k ≤ k') : ∀ {x : Nd}, hgN k x → hgN k' x := by
  induction h with
  | refl => exact fun h => h
  | step _ ih => exact fun h => hg_up _ _ (ih h)
theorem hg_leaf {k : Nat} {x : Nd} (h : x.ps = []) : hgN (k + 1) x := fun a ha => by rw [h] at ha; cases ha
theorem hg_dp (left : Bool) : ∀ j, hgN (j + 1) (ndE (dpE left j))
  | 0 => hg_leaf rfl
  | j + 1 => by
    have h1 := hg_dp left j
    have h2 : hgN (j + 1) (ndE cA) := hg_leaf rfl
    cases left
    · intro a ha
      rcases List.mem_cons.1 (show a ∈ [ndE cA, ndE (dpE false j)] from ha) with rfl | ha
      · exact h2
      · obtain rfl := List.mem_singleton.1 ha; exact h1
    · intro a ha
      rcases List.mem_cons.1 (show a ∈ [ndE (dpE true j), ndE cA] from ha) with rfl | ha
      · exact h1
      · obtain rfl := List.mem_singleton.1 ha; exact h2
/-- Wide expressions. -/
def wdE : Nat → Ex
  | 0 => .num 0
  | i + 1 => .bin 6 (wdE i) (wdE i)
theorem hg_wd : ∀ i, hgN (i + 1) (ndE (wdE i))
  | 0 => hg_leaf rfl
  | i + 1 => by
    have h1 := hg_wd i
    intro a ha
    rcases List.mem_cons.1 (show a ∈ [ndE (wdE i), ndE (wdE i)] from ha) with rfl | ha
    · exact h1
    · obtain rfl := List.mem_singleton.1 ha; exact h1
theorem gd_cA (k : Nat) : gdN (k + 1) [] (ndE cA) = true := by
  rw [gdN, show okN [] (ndE cA) = true by decide]
  rfl
theorem gd_dp (left : Bool) : ∀ (j k : Nat), gdN k [] (ndE (dpE left j)) = decide (j < k)
  | j, 0 => by rw [gdN]; simp
  | 0, k + 1 => by
    rw [gdN, show okN [] (ndE (dpE left 0)) = true from by show okN [] ⟨1, [], 0, 1, 0, 0, []⟩ = true; decide]
    simp [dpE, ndE, Nd.ps]
  | j + 1, k + 1 => by
    have ih := gd_dp left j k
    cases left
    · show gdN (k + 1) [] (.mk 4 [] 0 0 0 0 [ndE cA, ndE (dpE false j)]) = _
      rw [gdN_two (by decide), ih]
      cases k with
      | zero => simp
      | succ k => rw [gd_cA]; simp
    · show gdN (k + 1) [] (.mk 4 [] 0 0 0 0 [ndE (dpE true j), ndE cA]) = _
      rw [gdN_two (by decide), ih]
      cases k with
      | zero => simp
      | succ k => rw [gd_cA]; simp
theorem cnt_two (p q : Nd) (op : Int) : cntN (.mk op [] 0 0 0 0 [p, q]) ≤ 1 + cntN p + cntN q := by
  rw [cntN, cntL_cons, if_neg (by decide), cntL_cons]
  split
  · omega
  · rw [cntL_nil]; omega
theorem cnt_cA : cntN (ndE cA) = 1 := by show cntN (.mk 2 _ 0 0 0 0 []) = 1; rw [cntN, cntL_nil]
theorem cnt_dp (left : Bool) : ∀ j, cntN (ndE (dpE left j)) ≤ 2 * j + 1
  | 0 => by show cntN (.mk 1 [] 0 1 0 0 []) ≤ 1; rw [cntN, cntL_nil]; decide
  | j + 1 => by
    have ih := cnt_dp left j
    cases left
    · have h := cnt_two (ndE cA) (ndE (dpE false j)) 4
      rw [cnt_cA] at h
      exact Nat.le_trans h (by omega)
    · have h := cnt_two (ndE (dpE true j)) (ndE cA) 4
      rw [cnt_cA] at h
      exact Nat.le_trans h (by omega)
theorem rt_dp (left : Bool) {j : Nat} (h : j ≤ 29) : rtE [⟨[122], ndE (dpE left j)⟩] = decide (j < 20) := by
  have h1 : decide (szN 20 [] (ndE (dpE left j)) ≠ 0) = decide (j < 20) := by
    apply decide_eq_decide.2
    rw [szN_ne, gd_dp]
    have := cnt_dp left j
    simp
    omega
  rw [rtE, rtL, h1, show nameB [122] = true by decide]
  simp [rtL]
/-- The long list. -/
noncomputable def mnC (i : Nat) : Cl := ⟨[120] ++ Lib.itoa (i : Int), ndE (.num 0)⟩
noncomputable def mnL (i : Nat) : List Cl := (List.range i).map mnC
theorem mnL_succ (i : Nat) : mnL (i + 1) = mnL i ++ [mnC i] := by rw [mnL, mnL, List.range_succ, List.map_append]; rfl
theorem mnL_len (i : Nat) : (mnL i).length = i := by rw [mnL, List.length_map, List.length_range]
theorem sz_num0 : szN 20 [] (ndE (.num 0)) ≠ 0 := by
  rw [szN_ne]
  refine ⟨?_, ?_⟩
  · rw [gdN, show okN [] (ndE (.num 0)) = true from by show okN [] ⟨1, [], 0, 0, 0, 0, []⟩ = true; decide]; rfl
  · show cntN (.mk 1 [] 0 0 0 0 []) ≤ 200; rw [cntN, cntL_nil]; decide
theorem mn_name {i : Nat} (h : i ≤ 1000) : nameB (mnC i).nm = true := by
  have hd := dval_dec i
  have hi : Lib.itoa (i : Int) = Lib.decDigits i := by rw [Lib.itoa, if_neg (by omega)]; rfl
  have hl := itoa_lenK (z := (i : Int)) 4 (by omega) (by decide)
  show nameB ([120] ++ Lib.itoa (i : Int)) = true
  rw [hi] at hl ⊢
  have hr : resv.contains ([120] ++ Lib.decDigits i) = false := by
    rw [Bool.eq_false_iff]
    intro hc
    have hm : [120] ++ Lib.decDigits i ∈ resv := by simpa using hc
    have hall : ∀ s ∈ resv, s.head? ≠ some 120 := by decide
    exact hall _ hm rfl
  have hw : wordB ([120] ++ Lib.decDigits i) = (cLet 120 && ([120] ++ Lib.decDigits i).all cWrd) := wordB_head rfl (by simp; omega)
  have ha : ([120] ++ Lib.decDigits i).all cWrd = true := List.all_eq_true.2 fun c hc => by
    rcases List.mem_append.1 hc with hc | hc
    · obtain rfl : c = 120 := by simpa using hc
      decide
    · exact (dig_wrd (hd.2.1 c hc)).1
  rw [nameB, hr, hw, ha]
  decide
theorem mn_inj {i j : Nat} (h : (mnC i).nm = (mnC j).nm) : i = j := by
  have hi : ∀ i : Nat, Lib.itoa (i : Int) = Lib.decDigits i := fun i => by rw [Lib.itoa, if_neg (by omega)]; rfl
  have h2 : Lib.itoa (i : Int) = Lib.itoa (j : Int) := List.append_cancel_left (show [120] ++ _ = [120] ++ _ from h)
  rw [hi, hi] at h2
  have := congrArg dval h2
  rwa [(dval_dec i).1, (dval_dec j).1] at this
theorem rtL_gen : ∀ (l : List Cl) (seen : Sc), (∀ c ∈ l, szN 20 [] c.e ≠ 0 ∧ nameB c.nm = true) → (seen ++ l.map Cl.nm).Nodup → rtL seen l = true
  | [], _, _, _ => rfl
  | c :: t, seen, h, hn => by
    obtain ⟨h1, h2⟩ := h c (by simp)
    have hc : c.nm ∉ seen := by
      intro hm
      have := (List.nodup_append.1 hn).2.2
      exact this _ hm _ (by simp) rfl
    rw [rtL, h2, rtL_gen t (seen ++ [c.nm]) (fun c' hc' => h c' (by simp [hc'])) (by simpa using hn)]
    simp [hc, h1]
theorem rt_mn {m : Nat} (h : m ≤ 1000) : rtE (mnL m) = decide (m ≤ 40) := by
  have h1 : ∀ c ∈ mnL m, szN 20 [] c.e ≠ 0 ∧ nameB c.nm = true := fun c hc => by
    obtain ⟨i, hi, rfl⟩ := List.mem_map.1 hc
    exact ⟨sz_num0, mn_name (by have := List.mem_range.1 hi; omega)⟩
  have h2 : ([] ++ (mnL m).map Cl.nm).Nodup := by
    rw [List.nil_append, mnL, List.map_map]
    exact List.Pairwise.map _ (fun a b hab e => hab (mn_inj e)) List.nodup_range
  rw [rtE, mnL_len, rtL_gen (mnL m) [] h1 h2, Bool.true_and]
/-- What the law asks of each of its three lists. -/
def LmL (l : List Cl) : Prop := l.length ≤ 1000 ∧ NmOk l ∧ ∀ c ∈ l, hgN 100 c.e
theorem lm_dp (left : Bool) {j : Nat} (h : j ≤ 29) : LmL [⟨[122], ndE (dpE left j)⟩] := ⟨by simp, fun c hc => by rw [List.mem_singleton.1 hc]; simp, fun c hc => by rw [List.mem_singleton.1 hc]; exact hg_le (by omega) (hg_dp left j)⟩
theorem lm_wd {j : Nat} (h : j ≤ 29) : LmL [⟨[119], ndE (wdE j)⟩] := ⟨by simp, fun c hc => by rw [List.mem_singleton.1 hc]; simp, fun c hc => by rw [List.mem_singleton.1 hc]; exact hg_le (by omega) (hg_wd j)⟩
theorem lm_mn {m : Nat} (h : m ≤ 1000) : LmL (mnL m) := ⟨by rw [mnL_len]; exact h, fun c hc => by
    obtain ⟨i, hi, rfl⟩ := List.mem_map.1 hc
    have := name_len (mn_name (i := i) (by have := List.mem_range.1 hi; omega)); omega, fun c hc => by
    obtain ⟨i, hi, rfl⟩ := List.mem_map.1 hc
    exact hg_leaf rfl⟩
theorem lm_par {l : List Cl} (h : prE l = 0) : prS l = shL l ∧ (shL l).length ≤ 20000 ∧ paE (shL l) = (l, 0) := by
  refine ⟨by rw [prS, if_pos h], ?_, pa_sh h⟩
  unfold prE at h
  split at h
  · split at h
    · cases h
    · omega
  · cases h
end Go.Proofs.YtenhciieboegbaaGreatDoor
namespace Go.Proofs.YtenhciieboegbaaGreatDoor
open Go Go.RowKit Go.Maps
/-- An old expression under appends to a newer row. -/
theorem NdI.old {o : Option Nat} {B : Nat} {w X : World} {x : Nd} {us : List Value} (h : NdC B w x us) (e : Ext w X) (ho : ∀ g, o = some g → w.heap.size ≤ g) : NdI o B X x us := fun w' hc hg =>
  NdC.kept (fun p v hp hv => hc p v hp (fun q => by have h1 := ho _ q; have h2 := World.block_lt_of_cell? w p hv; omega) (e.cell hv)) (e.gr.trans hg) x us h
end Go.Proofs.YtenhciieboegbaaGreatDoor
namespace Go.Proofs.YtenhciieboegbaaGreatDoor
open Go Go.RowKit Go.Maps
structure JnW (X : World) (l : List Cl) (M : List (List Value)) (lv : Value) (Y : World) : Prop where
  e : Ext X Y
  rw : RwK 34 9 X.heap.size M lv Y
  cr : CsR 0 lv.ownBlock Y l M
section
variable {ops : Array Oper} {Q : Exit → Act → World → Prop} {ds : List (Option Tmp)} {a0 : Act} {w0 : World} {L : List (Value → World → Prop)} {boxes : List Nat} {i k : Nat} {o : Oper} {os : List Oper}
end
section
end
end Go.Proofs.YtenhciieboegbaaGreatDoor
