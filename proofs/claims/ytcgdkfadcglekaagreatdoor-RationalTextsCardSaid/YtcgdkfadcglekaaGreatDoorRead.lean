/-
  Descriptions of integers and integers as arguments: how they read, and that they read so behind a call that only makes memory. No condition.
-/
import Derived.Test.YtcgdkfadcglekaaGreatDoorRgm
import Derived.LaidMore
import Derived.MakeChecks
import Derived.Test.YtcgdkfadcglekaaGreatDoorRows
import Derived.Lib.SmallJoins
import Derived.ChangeSlices
import Derived.ChangeSame
import Derived.Below
import Derived.ProofKit
import Derived.Stop.Joined
import Derived.OpenShut
namespace Go.Proofs.YtcgdkfadcglekaaGreatDoor
open Go Go.RowKit Go.ChangeShapes Go.WideShapes Go.ChangeAt Go.Joins

section
variable {P : Program} {md : Region.Mode} {ops : Array Oper} {Q : Exit → Act → World → Prop} {ds : List (Option Tmp)} {a0 : Act} {w0 : World} {L : List (Value → World → Prop)} {boxes : List Nat} {i : Nat} {o : Oper}
end
section
variable {H : Type} {enc : TypeId × Value → H}

theorem wf_u32 (n : Int) (h : (Lit.int .u32 n).wf = true) : 0 ≤ n ∧ n ≤ 4294967295 := by
  simp only [Lit.wf, Bool.and_eq_true, decide_eq_true_eq] at h
  have h1 : IntKind.min .u32 = 0 := rfl
  have h2 : IntKind.max .u32 = 4294967295 := rfl
  rw [h1, h2] at h
  exact h
/-- What an argument's reading gives: how it reads stays, however the memory grows. -/
def Reads (enc : TypeId × Value → H) (W : World) (t : TypeId) (v : Value) (d : DataW H) (p : List MemPlace) : Prop :=
  ∀ (W' : World) (sp : Nat → Bool), Below W.heap.size W W' → (∀ q ∈ p, sp q.block = true) → DataW.Trod enc Tryz.prog W' 0 sp true t v d p

theorem words_open {W : World} {t : TypeId} (ht : Tryz.prog.underlying t = some (.slice 86)) {fuel : Nat} {c : Value} {y : DataW H × List MemPlace} (h : DataW.trod enc Tryz.prog W 0 (fun _ => true) true fuel t [c] = some y) :
    ∃ ao n cap xs, c = .slice ao n cap ∧ Wd W ao n cap xs ∧ ∀ (W' : World) (sp : Nat → Bool), Below W.heap.size W W' → (∀ q ∈ y.2, sp q.block = true) → ∃ m, DataW.trod enc Tryz.prog W' 0 sp true m t [c] = some y := by
  have he : Tryz.prog.underlying 86 = some (.int .u32) := by kernel_rfl
  have hc : Tryz.prog.cellsOf 86 = 1 := by kernel_rfl
  rcases open_ints ht he hc h with ⟨h1, rfl⟩ | ⟨a, len, cap, zs, h1, hb, hl, hm, hlen, rfl, hcell, hwf⟩
  · simp only [List.cons.injEq, and_true] at h1
    subst h1
    refine ⟨none, 0, 0, [], rfl, wd_nil _ _ _ (by omega), fun W' sp _ _ => ?_⟩
    obtain ⟨m, hm⟩ := shut_slice_nil (enc := enc) (w := W') (base := 0) (spare := sp) (held := true) ht
    exact ⟨m, by simpa [Value.cells] using hm⟩
  · simp only [List.cons.injEq, and_true] at h1
    subst h1
    simp only [if_true] at hlen
    have hlt : ∀ i, i < zs.length → a.block < W.heap.size := fun i hi => by
      have := World.block_lt_of_cell? W (a.add i) (hcell i hi)
      unfold Addr.add at this
      split at this <;> exact this
    refine ⟨some a, len, cap, (zs.take len).map Int.toNat, rfl, ⟨by simp; omega, hl, by unfold maxLen at hm; omega, fun i => ?_, ?_⟩, fun W' sp hbel hsp => ?_⟩
    · rcases Nat.lt_or_ge i ((zs.take len).map Int.toNat).length with hi | hi
      · have hi2 : i < zs.length := by simp at hi; omega
        have h3 := wf_u32 _ (hwf zs[i] (List.getElem_mem hi2))
        have h2 : ((zs.take len).map Int.toNat).getD i 0 = zs[i].toNat := by simp [List.getD, show i < len by simp at hi; omega, hi2]
        rw [h2]
        omega
      · rw [List.getD_eq_getElem?_getD, List.getElem?_eq_none hi]; simp
    · rcases Nat.eq_zero_or_pos len with h0 | h0
      · left; exact h0
      · have h00 := hcell 0 (by omega)
        have hsn : a.spot = none := by
          simp only [Addr.add, if_true, World.cell?] at h00
          split at h00
          · split at h00
            · cases h00
            · rename_i hs; simpa using hs
          · cases h00
        obtain ⟨b, off, sn⟩ := a
        simp only at hsn
        subst hsn
        refine .inr ⟨b, off, rfl, hlt 0 (by omega), fun j hj => ?_⟩
        have hj2 : j < zs.length := by omega
        have := hcell j hj2
        rw [Addr.add_lit] at this
        rw [this]
        have h2 : ((zs.take len).map Int.toNat).getD j 0 = zs[j].toNat := by simp [List.getD, hj, hj2]
        have h3 := wf_u32 _ (hwf zs[j] (List.getElem_mem hj2))
        have h4 : zs.getD j 0 = zs[j] := by simp [List.getD, hj2]
        rw [h2, h4]
        rw [Int.toNat_of_nonneg h3.1]
    · refine ⟨0 + 2, shut_ints 0 ht he hc hb hl hm ?_ (fun i hi => ?_) hwf⟩
      · rcases Nat.eq_zero_or_pos zs.length with h0 | h0
        · split <;> omega
        · have : sp a.block = true := hsp (.cell a.block a.off) (by simp only [MemPlace.row, List.mem_map, List.mem_range]; exact ⟨0, h0, by simp⟩)
          rw [this]; simpa using hlen
      · have h1 := hcell i hi
        rw [Below.cell hbel (by have := World.block_lt_of_cell? W (a.add i) h1; exact this)]
        exact h1

theorem post_of_below {P : Program} {f : Func} {s : ChangeSpec} {apart fresh handsOn again : Bool} {W W' : World} {args : Array Value} {v : Value} {ds gs : List (DataW H)} {before pa pv : List MemPlace}
    (hW : DataW.Whole enc P f.params.toList s.vars apart W args.toList ds gs before)
    (hres : ∀ (b : Nat) (sp : Nat → Bool) (hd : Bool), DataW.TrodAll enc P W' b sp hd f.resultTypes.toList (v.resultList f.resultTypes.size) (s.fn H (ds ++ gs)).results [])
    (hargs : ∀ sp : Nat → Bool, (∀ p ∈ before, sp p.block = true) → DataW.TrodAll enc P W' 0 sp true f.params.toList args.toList (s.fn H (ds ++ gs)).args pa)
    (hvars : ∀ sp : Nat → Bool, (∀ p ∈ before, sp p.block = true) → DataW.TrodVars enc P W' sp s.vars (s.fn H (ds ++ gs)).vars pv)
    (hps : before = pa ++ pv) (hb : Below W.heap.size W W')
    (hok : ∀ (j : Nat) (t : TypeId) (r : Value), f.resultTypes[j]? = some t → (v.resultList f.resultTypes.size)[j]? = some r → Value.okWide P W' .any 0 t r) :
    s.post enc P f apart fresh handsOn again W args v W' := by
  have hlt : ∀ p ∈ before, p.block < W.heap.size := fun p hp => hW.lt p hp
  have hold : ∀ p ∈ before, (fun b => decide (b < W.heap.size)) p.block = true := fun p hp => by simpa using hlt p hp
  refine ⟨ds, gs, before, [], pa, pv, hW, hres _ _ _, hargs _ hold, hvars _ hold, World.keptBut_mono (fun p hp => ⟨hp, ?_⟩) (hb.frame (· ∈ before)), fun _ => ?_⟩
  · rw [hps, List.mem_append] at hp
    exact Or.inr hp
  · obtain ⟨_, _, _, _, _, hz, hn⟩ := hW
    refine ⟨hok, _, _, ([] ++ pa) ++ pv, ⟨[] ++ pa, pv, trodAll_append (hargs _ (fun _ _ => rfl)) (hres _ _ _), hvars _ (fun _ _ => rfl), rfl, ?_, ?_⟩, ?_⟩
    · intro b off hp
      have hin : MemPlace.cell b off ∈ before := by rw [hps]; simpa using hp
      rw [hb.frozen (hlt _ hin)]
      exact hz b off hin
    · intro ha
      have := hn ha
      rw [hps] at this
      simpa using this
    · intro p hp _
      rw [hps]
      simpa using hp
end

/-- What the row lists. -/
def laid3 : List (String × DataW Unit) := [("math/bits.deBruijn32tab", Rows.laid_math_bits_deBruijn32tab), ("math/bits.deBruijn64tab", Rows.laid_math_bits_deBruijn64tab), ("internal/strconv.uint64pow10", Rows.laid_internal_strconv_uint64pow10)]
theorem own : ownKnob Tryz.prog.godebug = none := by kernel_rfl
set_option maxRecDepth 100000 in
/-- The door's own heap meets the condition: closed facts. -/
theorem door_met (os : Os) (args : Array Value) : laidMetH Tryz.prog laid3 ((World.doorLaid Tryz.prog 2000 os).forCall (fun _ _ => 0) ⟨#[], args, []⟩).memory :=
  laidMetH_of_parts3 (fuel := 8) (laidMet_of_run' 8 (by kernel_rfl) (by kernel_rfl)) (by kernel_rfl) (by kernel_rfl)
set_option maxRecDepth 100000 in
/-- What the condition gives the walks: the table. -/
theorem tab_of_laid {W : World} (h : laidMetH Tryz.prog laid3 W) : Tab W := by
  rw [MakeChecks.laidMetH_plain _ _ _ (by kernel_rfl)] at h
  obtain ⟨ps, ⟨g0, t0, cs0, f0, p0, q0, hg0, ht0, hv0, hd0, ⟨g1, t1, cs1, f1, p1, q1, hg1, ht1, hv1, hd1, ⟨g2, t2, cs2, f2, p2, q2, hg2, ht2, hv2, hd2, _, _⟩, _⟩, _⟩, _, _⟩ := h
  have hty : (Tryz.prog.globals[g2]?).map (·.type) = some t2 := ht2
  have hg : Tryz.prog.globalNamed "internal/strconv.uint64pow10" = some 2 := by kernel_rfl
  obtain rfl := Option.some.inj (hg.symm.trans hg2)
  have ht : (Tryz.prog.globals[2]?).map (·.type) = some 161 := by kernel_rfl
  obtain rfl := Option.some.inj (ht.symm.trans ht2)
  unfold Tab Lib.TabIs
  rw [hv2, ← Lib.cells_of_tab (n := 20) (k := .u64) (e := 84) (zs := Lib.pow10Tab) (by kernel_rfl) (by kernel_rfl) (by kernel_rfl) (by kernel_rfl) hd2]

/-! ### Valid of package integer and of the reference: every integer that a call hands back is canonical. -/
end Go.Proofs.YtcgdkfadcglekaaGreatDoor
