/-
  Descriptions of integers and integers as arguments: how they read, and that they read so behind a call that only makes memory. No condition.
  How descriptions of fractions, and fractions, read as arguments. No condition.
  Arrays of two descriptions of fractions, and of two bytes, as arguments. No condition.
-/
import Derived.Test.YtcgdkfadcglekaaGreatDoorRgm
import Derived.LaidMore
import Derived.MakeChecks
import Derived.Test.YtcgdkfadcglekaaGreatDoorRows
import Derived.Lib.SmallJoins
import Derived.ChangeSlices
import Derived.ChangeSame
import Derived.Below
import Derived.ProofKit
import Derived.Stop.Joined
import Derived.OpenShut
namespace Go.Proofs.YtcgdkfadcglekaaGreatDoor
open Go Go.RowKit Go.ChangeShapes Go.WideShapes Go.ChangeAt Go.Joins

section
variable {P : Program} {md : Region.Mode} {ops : Array Oper} {Q : Exit → Act → World → Prop} {ds : List (Option Tmp)} {a0 : Act} {w0 : World} {L : List (Value → World → Prop)} {boxes : List Nat} {i : Nat} {o : Oper}
end
section
variable {H : Type} {enc : TypeId × Value → H}

theorem wf_u32 (n : Int) (h : (Lit.int .u32 n).wf = true) : 0 ≤ n ∧ n ≤ 4294967295 := by
  simp only [Lit.wf, Bool.and_eq_true, decide_eq_true_eq] at h
  have h1 : IntKind.min .u32 = 0 := rfl
  have h2 : IntKind.max .u32 = 4294967295 := rfl
  rw [h1, h2] at h
  exact h
/-- What an argument's reading gives: how it reads stays, however the memory grows. -/
def Reads (enc : TypeId × Value → H) (W : World) (t : TypeId) (v : Value) (d : DataW H) (p : List MemPlace) : Prop :=
  ∀ (W' : World) (sp : Nat → Bool), Below W.heap.size W W' → (∀ q ∈ p, sp q.block = true) → DataW.Trod enc Tryz.prog W' 0 sp true t v d p

theorem words_open {W : World} {t : TypeId} (ht : Tryz.prog.underlying t = some (.slice 86)) {fuel : Nat} {c : Value} {y : DataW H × List MemPlace} (h : DataW.trod enc Tryz.prog W 0 (fun _ => true) true fuel t [c] = some y) :
    ∃ ao n cap xs, c = .slice ao n cap ∧ Wd W ao n cap xs ∧ ∀ (W' : World) (sp : Nat → Bool), Below W.heap.size W W' → (∀ q ∈ y.2, sp q.block = true) → ∃ m, DataW.trod enc Tryz.prog W' 0 sp true m t [c] = some y := by
  have he : Tryz.prog.underlying 86 = some (.int .u32) := by kernel_rfl
  have hc : Tryz.prog.cellsOf 86 = 1 := by kernel_rfl
  rcases open_ints ht he hc h with ⟨h1, rfl⟩ | ⟨a, len, cap, zs, h1, hb, hl, hm, hlen, rfl, hcell, hwf⟩
  · simp only [List.cons.injEq, and_true] at h1
    subst h1
    refine ⟨none, 0, 0, [], rfl, wd_nil _ _ _ (by omega), fun W' sp _ _ => ?_⟩
    obtain ⟨m, hm⟩ := shut_slice_nil (enc := enc) (w := W') (base := 0) (spare := sp) (held := true) ht
    exact ⟨m, by simpa [Value.cells] using hm⟩
  · simp only [List.cons.injEq, and_true] at h1
    subst h1
    simp only [if_true] at hlen
    have hlt : ∀ i, i < zs.length → a.block < W.heap.size := fun i hi => by
      have := World.block_lt_of_cell? W (a.add i) (hcell i hi)
      unfold Addr.add at this
      split at this <;> exact this
    refine ⟨some a, len, cap, (zs.take len).map Int.toNat, rfl, ⟨by simp; omega, hl, by unfold maxLen at hm; omega, fun i => ?_, ?_⟩, fun W' sp hbel hsp => ?_⟩
    · rcases Nat.lt_or_ge i ((zs.take len).map Int.toNat).length with hi | hi
      · have hi2 : i < zs.length := by simp at hi; omega
        have h3 := wf_u32 _ (hwf zs[i] (List.getElem_mem hi2))
        have h2 : ((zs.take len).map Int.toNat).getD i 0 = zs[i].toNat := by simp [List.getD, show i < len by simp at hi; omega, hi2]
        rw [h2]
        omega
      · rw [List.getD_eq_getElem?_getD, List.getElem?_eq_none hi]; simp
    · rcases Nat.eq_zero_or_pos len with h0 | h0
      · left; exact h0
      · have h00 := hcell 0 (by omega)
        have hsn : a.spot = none := by
          simp only [Addr.add, if_true, World.cell?] at h00
          split at h00
          · split at h00
            · cases h00
            · rename_i hs; simpa using hs
          · cases h00
        obtain ⟨b, off, sn⟩ := a
        simp only at hsn
        subst hsn
        refine .inr ⟨b, off, rfl, hlt 0 (by omega), fun j hj => ?_⟩
        have hj2 : j < zs.length := by omega
        have := hcell j hj2
        rw [Addr.add_lit] at this
        rw [this]
        have h2 : ((zs.take len).map Int.toNat).getD j 0 = zs[j].toNat := by simp [List.getD, hj, hj2]
        have h3 := wf_u32 _ (hwf zs[j] (List.getElem_mem hj2))
        have h4 : zs.getD j 0 = zs[j] := by simp [List.getD, hj2]
        rw [h2, h4]
        rw [Int.toNat_of_nonneg h3.1]
    · refine ⟨0 + 2, shut_ints 0 ht he hc hb hl hm ?_ (fun i hi => ?_) hwf⟩
      · rcases Nat.eq_zero_or_pos zs.length with h0 | h0
        · split <;> omega
        · have : sp a.block = true := hsp (.cell a.block a.off) (by simp only [MemPlace.row, List.mem_map, List.mem_range]; exact ⟨0, h0, by simp⟩)
          rw [this]; simpa using hlen
      · have h1 := hcell i hi
        rw [Below.cell hbel (by have := World.block_lt_of_cell? W (a.add i) h1; exact this)]
        exact h1

theorem post_of_below {P : Program} {f : Func} {s : ChangeSpec} {apart fresh handsOn again : Bool} {W W' : World} {args : Array Value} {v : Value} {ds gs : List (DataW H)} {before pa pv : List MemPlace}
    (hW : DataW.Whole enc P f.params.toList s.vars apart W args.toList ds gs before)
    (hres : ∀ (b : Nat) (sp : Nat → Bool) (hd : Bool), DataW.TrodAll enc P W' b sp hd f.resultTypes.toList (v.resultList f.resultTypes.size) (s.fn H (ds ++ gs)).results [])
    (hargs : ∀ sp : Nat → Bool, (∀ p ∈ before, sp p.block = true) → DataW.TrodAll enc P W' 0 sp true f.params.toList args.toList (s.fn H (ds ++ gs)).args pa)
    (hvars : ∀ sp : Nat → Bool, (∀ p ∈ before, sp p.block = true) → DataW.TrodVars enc P W' sp s.vars (s.fn H (ds ++ gs)).vars pv)
    (hps : before = pa ++ pv) (hb : Below W.heap.size W W')
    (hok : ∀ (j : Nat) (t : TypeId) (r : Value), f.resultTypes[j]? = some t → (v.resultList f.resultTypes.size)[j]? = some r → Value.okWide P W' .any 0 t r) :
    s.post enc P f apart fresh handsOn again W args v W' := by
  have hlt : ∀ p ∈ before, p.block < W.heap.size := fun p hp => hW.lt p hp
  have hold : ∀ p ∈ before, (fun b => decide (b < W.heap.size)) p.block = true := fun p hp => by simpa using hlt p hp
  refine ⟨ds, gs, before, [], pa, pv, hW, hres _ _ _, hargs _ hold, hvars _ hold, World.keptBut_mono (fun p hp => ⟨hp, ?_⟩) (hb.frame (· ∈ before)), fun _ => ?_⟩
  · rw [hps, List.mem_append] at hp
    exact Or.inr hp
  · obtain ⟨_, _, _, _, _, hz, hn⟩ := hW
    refine ⟨hok, _, _, ([] ++ pa) ++ pv, ⟨[] ++ pa, pv, trodAll_append (hargs _ (fun _ _ => rfl)) (hres _ _ _), hvars _ (fun _ _ => rfl), rfl, ?_, ?_⟩, ?_⟩
    · intro b off hp
      have hin : MemPlace.cell b off ∈ before := by rw [hps]; simpa using hp
      rw [hb.frozen (hlt _ hin)]
      exact hz b off hin
    · intro ha
      have := hn ha
      rw [hps] at this
      simpa using this
    · intro p hp _
      rw [hps]
      simpa using hp
end

/-- What the row lists. -/
def laid3 : List (String × DataW Unit) := [("math/bits.deBruijn32tab", Rows.laid_math_bits_deBruijn32tab), ("math/bits.deBruijn64tab", Rows.laid_math_bits_deBruijn64tab), ("internal/strconv.uint64pow10", Rows.laid_internal_strconv_uint64pow10)]
theorem own : ownKnob Tryz.prog.godebug = none := by kernel_rfl
set_option maxRecDepth 100000 in
/-- The door's own heap meets the condition: closed facts. -/
theorem door_met (os : Os) (args : Array Value) : laidMetH Tryz.prog laid3 ((World.doorLaid Tryz.prog 2000 os).forCall (fun _ _ => 0) ⟨#[], args, []⟩).memory :=
  laidMetH_of_parts3 (fuel := 8) (laidMet_of_run' 8 (by kernel_rfl) (by kernel_rfl)) (by kernel_rfl) (by kernel_rfl)
set_option maxRecDepth 100000 in
/-- What the condition gives the walks: the table. -/
theorem tab_of_laid {W : World} (h : laidMetH Tryz.prog laid3 W) : Tab W := by
  rw [MakeChecks.laidMetH_plain _ _ _ (by kernel_rfl)] at h
  obtain ⟨ps, ⟨g0, t0, cs0, f0, p0, q0, hg0, ht0, hv0, hd0, ⟨g1, t1, cs1, f1, p1, q1, hg1, ht1, hv1, hd1, ⟨g2, t2, cs2, f2, p2, q2, hg2, ht2, hv2, hd2, _, _⟩, _⟩, _⟩, _, _⟩ := h
  have hty : (Tryz.prog.globals[g2]?).map (·.type) = some t2 := ht2
  have hg : Tryz.prog.globalNamed "internal/strconv.uint64pow10" = some 2 := by kernel_rfl
  obtain rfl := Option.some.inj (hg.symm.trans hg2)
  have ht : (Tryz.prog.globals[2]?).map (·.type) = some 161 := by kernel_rfl
  obtain rfl := Option.some.inj (ht.symm.trans ht2)
  unfold Tab Lib.TabIs
  rw [hv2, ← Lib.cells_of_tab (n := 20) (k := .u64) (e := 84) (zs := Lib.pow10Tab) (by kernel_rfl) (by kernel_rfl) (by kernel_rfl) (by kernel_rfl) hd2]

/-! ### Valid of package integer and of the reference: every integer that a call hands back is canonical. -/
end Go.Proofs.YtcgdkfadcglekaaGreatDoor
namespace Go.Proofs.YtcgdkfadcglekaaGreatDoor
open Go Go.RowKit Go.ChangeShapes Go.WideShapes Go.ChangeAt Go.Joins
set_option maxRecDepth 100000

section
variable {H : Type} {enc : TypeId × Value → H}
/-- Two cells: a sign and words. -/
def Cells2 (P : Program) (enc : TypeId × Value → H) (t : TypeId) : Prop := ∀ (W : World) (n : Nat) (cs : List Value) (y : DataW H × List MemPlace), DataW.trod enc P W 0 (fun _ => true) true n t cs = some y →
  ∃ s ao m cap xs, cs = [.bool s, .slice ao m cap] ∧ Wd W ao m cap xs ∧ ∀ (W' : World) (sp : Nat → Bool), Below W.heap.size W W' → (∀ q ∈ y.2, sp q.block = true) → ∃ k, DataW.trod enc P W' 0 sp true k t cs = some y
theorem cells2_of {t : TypeId} {f0 f1 : Field} (ht : Tryz.prog.underlying t = some (.struct #[f0, f1])) (hb : f0.type = 4) (hw : Tryz.prog.underlying f1.type = some (.slice 86)) (h0 : f0.offset = 0) (h1 : f1.offset = 1) (c0 : Tryz.prog.cellsOf f0.type = 1) (c1 : Tryz.prog.cellsOf f1.type = 1) (hC : Tryz.prog.cellsOf t = 2) : Cells2 Tryz.prog enc t := by
  intro W n cs y h
  obtain ⟨y0, y1, m, rfl, hl, k0, k1⟩ := trod_struct2 ht h
  rw [hC] at hl
  match cs, hl with
  | [v0, v1], _ =>
    simp only [h0, h1, c0, c1, List.drop_zero, List.take_succ_cons, List.take_zero, List.drop_succ_cons] at k0 k1
    rw [hb] at k0
    obtain ⟨s, hs, rfl⟩ := DataW.trod_bool (by kernel_rfl) k0
    simp only [List.cons.injEq, and_true] at hs
    subst hs
    obtain ⟨ao, l, cap, xs, rfl, hwd, hr⟩ := words_open hw k1
    refine ⟨s, ao, l, cap, xs, rfl, hwd, fun W' sp hbel hsp => ?_⟩
    obtain ⟨n1, t1⟩ := hr W' sp hbel (fun q hq => hsp q (by simpa using hq))
    refine ⟨max 1 n1 + 1, trod_struct2_mk (n := max 1 n1) ht (by rw [hC]; rfl) ?_ ?_⟩
    · simp only [h0, c0, List.drop_zero, List.take_succ_cons, List.take_zero]
      rw [hb]
      exact DataW.trod_le (Nat.le_max_left 1 n1) (by simp [DataW.trod, show Tryz.prog.underlying 4 = some .bool by kernel_rfl])
    · simp only [h1, c1, List.take_succ_cons, List.take_zero, List.drop_succ_cons, List.drop_zero]
      exact DataW.trod_le (Nat.le_max_right 1 n1) t1
theorem cells2_Raw : Cells2 Tryz.prog enc 24 := cells2_of Tryz.underlying24 rfl (by kernel_rfl) rfl rfl (by kernel_rfl) (by kernel_rfl) (by kernel_rfl)
/-- Four cells: two such. -/
def Cells4 (P : Program) (enc : TypeId × Value → H) (t : TypeId) : Prop := ∀ (W : World) (n : Nat) (cs : List Value) (y : DataW H × List MemPlace), DataW.trod enc P W 0 (fun _ => true) true n t cs = some y →
  ∃ s ao m cap xs s' ao' m' cap' xs', cs = [.bool s, .slice ao m cap, .bool s', .slice ao' m' cap'] ∧ Wd W ao m cap xs ∧ Wd W ao' m' cap' xs' ∧ ∀ (W' : World) (sp : Nat → Bool), Below W.heap.size W W' → (∀ q ∈ y.2, sp q.block = true) → ∃ k, DataW.trod enc P W' 0 sp true k t cs = some y
theorem cells4_of {t : TypeId} {f0 f1 : Field} (ht : Tryz.prog.underlying t = some (.struct #[f0, f1])) (e0 : Cells2 Tryz.prog enc f0.type) (e1 : Cells2 Tryz.prog enc f1.type) (h0 : f0.offset = 0) (h1 : f1.offset = 2) (c0 : Tryz.prog.cellsOf f0.type = 2) (c1 : Tryz.prog.cellsOf f1.type = 2) (hC : Tryz.prog.cellsOf t = 4) : Cells4 Tryz.prog enc t := by
  intro W n cs y h
  obtain ⟨y0, y1, m, rfl, hl, k0, k1⟩ := trod_struct2 ht h
  rw [hC] at hl
  match cs, hl with
  | [v0, v1, v2, v3], _ =>
    simp only [h0, h1, c0, c1, List.drop_zero, List.take_succ_cons, List.take_zero, List.drop_succ_cons] at k0 k1
    obtain ⟨s, ao, l, cap, xs, he, hwd, hr⟩ := e0 W _ _ _ k0
    obtain ⟨s', ao', l', cap', xs', he', hwd', hr'⟩ := e1 W _ _ _ k1
    simp only [List.cons.injEq, and_true] at he he'
    obtain ⟨rfl, rfl⟩ := he
    obtain ⟨rfl, rfl⟩ := he'
    refine ⟨s, ao, l, cap, xs, s', ao', l', cap', xs', rfl, hwd, hwd', fun W' sp hbel hsp => ?_⟩
    obtain ⟨n0, t0⟩ := hr W' sp hbel (fun q hq => hsp q (by simp [hq]))
    obtain ⟨n1, t1⟩ := hr' W' sp hbel (fun q hq => hsp q (by simp [hq]))
    refine ⟨max n0 n1 + 1, trod_struct2_mk (n := max n0 n1) ht (by rw [hC]; rfl) ?_ ?_⟩
    · simp only [h0, c0, List.drop_zero, List.take_succ_cons, List.take_zero]
      exact DataW.trod_le (Nat.le_max_left n0 n1) t0
    · simp only [h1, c1, List.take_succ_cons, List.take_zero, List.drop_succ_cons, List.drop_zero]
      exact DataW.trod_le (Nat.le_max_right n0 n1) t1
theorem cells4_RawQ : Cells4 Tryz.prog enc 26 := cells4_of Tryz.underlying26 cells2_Raw cells2_Raw rfl rfl (by kernel_rfl) (by kernel_rfl) (by kernel_rfl)
end
end Go.Proofs.YtcgdkfadcglekaaGreatDoor
namespace Go.Proofs.YtcgdkfadcglekaaGreatDoor
open Go Go.RowKit Go.ChangeShapes Go.WideShapes Go.ChangeAt Go.Joins
set_option maxRecDepth 100000

section
variable {H : Type} {enc : TypeId × Value → H}
theorem trod_array2 {P : Program} {w : World} {base : Nat} {sp : Nat → Bool} {held : Bool} {fuel : Nat} {t e : TypeId} {cs : List Value} {x : DataW H × List MemPlace} (ht : P.underlying t = some (.array 2 e)) (h : DataW.trod enc P w base sp held fuel t cs = some x) :
    ∃ y0 y1 m, x = (.agg [y0.1, y1.1], y0.2 ++ y1.2) ∧ cs.length = P.cellsOf t ∧ DataW.trod enc P w base sp held m e (cs.take (P.cellsOf e)) = some y0 ∧ DataW.trod enc P w base sp held m e ((cs.drop (P.cellsOf e)).take (P.cellsOf e)) = some y1 := by
  obtain ⟨xs, m, _, rfl, hl, hlen, hf⟩ := DataW.trod_array ht h
  match xs, hlen with
  | [y0, y1], _ => exact ⟨y0, y1, m, by simp, hl, by simpa using hf 0 (by decide), by simpa using hf 1 (by decide)⟩
theorem trod_array2_mk {P : Program} {w : World} {base : Nat} {sp : Nat → Bool} {held : Bool} {n : Nat} {t e : TypeId} {cs : List Value} {y0 y1 : DataW H × List MemPlace} (ht : P.underlying t = some (.array 2 e)) (hl : cs.length = P.cellsOf t)
    (h0 : DataW.trod enc P w base sp held n e (cs.take (P.cellsOf e)) = some y0) (h1 : DataW.trod enc P w base sp held n e ((cs.drop (P.cellsOf e)).take (P.cellsOf e)) = some y1) : DataW.trod enc P w base sp held (n + 1) t cs = some (.agg [y0.1, y1.1], y0.2 ++ y1.2) := by
  unfold DataW.trod
  rw [ht]
  simp [hl, List.range_succ, h0, h1]
theorem okWide_array {P : Program} {w : World} {r : Reach} {base : Nat} {t e : TypeId} {n : Nat} {v : Value} (ht : P.underlying t = some (.array n e)) (h : Value.okWide P w r base t v) : ∃ cs, v = .agg cs ∧ cs.size = P.cellsOf t := by
  simp only [Value.okWide, ht] at h
  obtain ⟨cs, h1, h2, _⟩ := h
  exact ⟨cs, h1, h2⟩
/-- Two descriptions of fractions. -/
theorem rawp_open {W : World} {b0 : Nat} {r : Reach} {v : Value} {d : DataW H} {p : List MemPlace} (hv : Value.okWide Tryz.prog W r b0 66 v) (h : DataW.Trod enc Tryz.prog W 0 (fun _ => true) true 66 v d p) :
    ∃ s ao n cap xs s' ao' n' cap' xs' s2 ao2 n2 cap2 xs2 s3 ao3 n3 cap3 xs3, v = .agg #[.bool s, .slice ao n cap, .bool s', .slice ao' n' cap', .bool s2, .slice ao2 n2 cap2, .bool s3, .slice ao3 n3 cap3] ∧
      Wd W ao n cap xs ∧ Wd W ao' n' cap' xs' ∧ Wd W ao2 n2 cap2 xs2 ∧ Wd W ao3 n3 cap3 xs3 ∧ Reads enc W 66 v d p := by
  have ht : Tryz.prog.underlying 66 = some (.array 2 26) := by kernel_rfl
  have hC : Tryz.prog.cellsOf 66 = 8 := by kernel_rfl
  have hE : Tryz.prog.cellsOf 26 = 4 := by kernel_rfl
  obtain ⟨cs, rfl, hsz⟩ := okWide_array ht hv
  obtain ⟨n, hn⟩ := h
  obtain ⟨cl⟩ := cs
  obtain ⟨y0, y1, m, hy, hl, k0, k1⟩ := trod_array2 ht hn
  simp only [Value.cells] at hl k0 k1
  rw [hC] at hl
  rw [hE] at k0 k1
  match cl, hl with
  | [v0, v1, v2, v3, v4, v5, v6, v7], _ =>
    simp only [List.take_succ_cons, List.take_zero, List.drop_succ_cons, List.drop_zero] at k0 k1
    obtain ⟨s, ao, l, cap, xs, s', ao', l', cap', xs', he, hwd, hwd', hr⟩ := cells4_RawQ W _ _ _ k0
    obtain ⟨s2, ao2, l2, cap2, xs2, s3, ao3, l3, cap3, xs3, he2, hwd2, hwd3, hr2⟩ := cells4_RawQ W _ _ _ k1
    simp only [List.cons.injEq, and_true] at he he2
    obtain ⟨rfl, rfl, rfl, rfl⟩ := he
    obtain ⟨rfl, rfl, rfl, rfl⟩ := he2
    refine ⟨s, ao, l, cap, xs, s', ao', l', cap', xs', s2, ao2, l2, cap2, xs2, s3, ao3, l3, cap3, xs3, rfl, hwd, hwd', hwd2, hwd3, fun W' sp hb hsp => ?_⟩
    simp only [Prod.mk.injEq] at hy
    obtain ⟨rfl, rfl⟩ := hy
    obtain ⟨n0, t0⟩ := hr W' sp hb (fun q hq => hsp q (by simp [hq]))
    obtain ⟨n1, t1⟩ := hr2 W' sp hb (fun q hq => hsp q (by simp [hq]))
    refine ⟨max n0 n1 + 1, trod_array2_mk (n := max n0 n1) ht (by rw [hC]; rfl) ?_ ?_⟩
    · rw [hE]; exact DataW.trod_le (Nat.le_max_left n0 n1) t0
    · rw [hE]; exact DataW.trod_le (Nat.le_max_right n0 n1) t1
/-- Two bytes. -/
theorem bytes2_open {W : World} {b0 : Nat} {r : Reach} {v : Value} {d : DataW H} {p : List MemPlace} (hv : Value.okWide Tryz.prog W r b0 72 v) (h : DataW.Trod enc Tryz.prog W 0 (fun _ => true) true 72 v d p) :
    ∃ i j : Int, v = .agg #[.int .u8 i, .int .u8 j] ∧ (0 ≤ i ∧ i ≤ 255) ∧ (0 ≤ j ∧ j ≤ 255) ∧ p = [] ∧ Reads enc W 72 v d p := by
  have ht : Tryz.prog.underlying 72 = some (.array 2 5) := by kernel_rfl
  have hC : Tryz.prog.cellsOf 72 = 2 := by kernel_rfl
  have hE : Tryz.prog.cellsOf 5 = 1 := by kernel_rfl
  have hU : Tryz.prog.underlying 5 = some (.int .u8) := by kernel_rfl
  obtain ⟨cs, rfl, hsz⟩ := okWide_array ht hv
  obtain ⟨n, hn⟩ := h
  obtain ⟨cl⟩ := cs
  obtain ⟨y0, y1, m, hy, hl, k0, k1⟩ := trod_array2 ht hn
  simp only [Value.cells] at hl k0 k1
  rw [hC] at hl
  rw [hE] at k0 k1
  match cl, hl with
  | [v0, v1], _ =>
    simp only [List.take_succ_cons, List.take_zero, List.drop_succ_cons, List.drop_zero] at k0 k1
    obtain ⟨i, e0, rfl, w0⟩ := DataW.trod_int hU k0
    obtain ⟨j, e1, rfl, w1⟩ := DataW.trod_int hU k1
    simp only [List.cons.injEq, and_true] at e0 e1
    subst e0; subst e1
    simp only [Prod.mk.injEq] at hy
    obtain ⟨rfl, rfl⟩ := hy
    have g0 : 0 ≤ i ∧ i ≤ 255 := by simpa [Lit.wf, IntKind.min, IntKind.max, IntKind.signed, IntKind.bits] using w0
    have g1 : 0 ≤ j ∧ j ≤ 255 := by simpa [Lit.wf, IntKind.min, IntKind.max, IntKind.signed, IntKind.bits] using w1
    refine ⟨i, j, rfl, g0, g1, rfl, fun W' sp hb hsp => ⟨2, ?_⟩⟩
    exact trod_array2_mk (n := 1) (cs := [.int .u8 i, .int .u8 j]) (y0 := (.lit (.int .u8 i), [])) (y1 := (.lit (.int .u8 j), [])) ht (by rw [hC]; rfl) (by rw [hE]; exact trod_int_mk 0 hU w0) (by rw [hE]; exact trod_int_mk 0 hU w1)
end
end Go.Proofs.YtcgdkfadcglekaaGreatDoor
