/-
  The row parts of the notebook's laws: bytes and rows of bytes as arguments; what a row's world gives. (Printed by wip/gen/nrr.py.)
-/
import Derived.Test.YtenhciieboegbaaGreatDoorNmd
import Derived.Test.YtenhciieboegbaaGreatDoorRows
import Derived.LaidMore
import Derived.MakeChecks
import Derived.Lib.SmallJoins
import Derived.ChangeSlices
import Derived.ChangeSame
import Derived.Below
import Derived.ProofKit
import Derived.Stop.Joined
import Derived.OpenShut
import Derived.SizedLaws
import Derived.Shelf.Vars
import Derived.Deep.Slices
namespace Go.Proofs.YtenhciieboegbaaGreatDoor
open Go Go.RowKit Go.ChangeShapes Go.WideShapes Go.ChangeAt Go.Joins
section
variable {H : Type} {enc : TypeId × Value → H}
theorem post_of_below {P : Program} {f : Func} {s : ChangeSpec} {apart fresh handsOn again : Bool} {W W' : World} {args : Array Value} {v : Value} {ds gs : List (DataW H)} {before pa pv : List MemPlace}
    (hW : DataW.Whole enc P f.params.toList s.vars apart W args.toList ds gs before)
    (hres : ∀ (b : Nat) (sp : Nat → Bool) (hd : Bool), DataW.TrodAll enc P W' b sp hd f.resultTypes.toList (v.resultList f.resultTypes.size) (s.fn H (ds ++ gs)).results [])
    (hargs : ∀ sp : Nat → Bool, (∀ p ∈ before, sp p.block = true) → DataW.TrodAll enc P W' 0 sp true f.params.toList args.toList (s.fn H (ds ++ gs)).args pa)
    (hvars : ∀ sp : Nat → Bool, (∀ p ∈ before, sp p.block = true) → DataW.TrodVars enc P W' sp s.vars (s.fn H (ds ++ gs)).vars pv)
    (hps : before = pa ++ pv) (hb : Below W.heap.size W W')
    (hok : ∀ (j : Nat) (t : TypeId) (r : Value), f.resultTypes[j]? = some t → (v.resultList f.resultTypes.size)[j]? = some r → Value.okWide P W' .any 0 t r) :
    s.post enc P f apart fresh handsOn again W args v W' := by
  have hlt : ∀ p ∈ before, p.block < W.heap.size := fun p hp => hW.lt p hp
  have hold : ∀ p ∈ before, (fun b => decide (b < W.heap.size)) p.block = true := fun p hp => by simpa using hlt p hp
  refine ⟨ds, gs, before, [], pa, pv, hW, hres _ _ _, hargs _ hold, hvars _ hold, World.keptBut_mono (fun p hp => ⟨hp, ?_⟩) (hb.frame (· ∈ before)), fun _ => ?_⟩
  · rw [hps, List.mem_append] at hp
    exact Or.inr hp
  · obtain ⟨_, _, _, _, _, hz, hn⟩ := hW
    refine ⟨hok, _, _, ([] ++ pa) ++ pv, ⟨[] ++ pa, pv, trodAll_append (hargs _ (fun _ _ => rfl)) (hres _ _ _), hvars _ (fun _ _ => rfl), rfl, ?_, ?_⟩, ?_⟩
    · intro b off hp
      have hin : MemPlace.cell b off ∈ before := by rw [hps]; simpa using hp
      rw [hb.frozen (hlt _ hin)]
      exact hz b off hin
    · intro ha
      have := hn ha
      rw [hps] at this
      simpa using this
    · intro p hp _
      rw [hps]
      simpa using hp
end
theorem own : ownKnob Tryz.prog.godebug = none := by kernel_rfl
theorem wf_u8 (n : Int) (h : (Lit.int .u8 n).wf = true) : 0 ≤ n ∧ n ≤ 255 := by
  simp only [Lit.wf, Bool.and_eq_true, decide_eq_true_eq] at h
  have h1 : IntKind.min .u8 = 0 := rfl
  have h2 : IntKind.max .u8 = 255 := rfl
  rw [h1, h2] at h
  exact h
section
variable {H : Type} {enc : TypeId × Value → H}
theorem bytes_open {W : World} {t : TypeId} (ht : Tryz.prog.underlying t = some (.slice 5)) {fuel : Nat} {c : Value} {y : DataW H × List MemPlace} (h : DataW.trod enc Tryz.prog W 0 (fun _ => true) true fuel t [c] = some y) :
    IsBy c W ∧ ∀ (W' : World) (sp : Nat → Bool), Below W.heap.size W W' → (∀ q ∈ y.2, sp q.block = true) → ∃ m, DataW.trod enc Tryz.prog W' 0 sp true m t [c] = some y := by
  have he : Tryz.prog.underlying 5 = some (.int .u8) := by kernel_rfl
  have hc : Tryz.prog.cellsOf 5 = 1 := by kernel_rfl
  rcases open_ints ht he hc h with ⟨h1, rfl⟩ | ⟨a, len, cap, zs, h1, hb, hl, hm, hlen, rfl, hcell, hwf⟩
  · simp only [List.cons.injEq, and_true] at h1
    subst h1
    refine ⟨⟨none, 0, 0, rfl, by decide, fun h => absurd rfl h⟩, fun W' sp _ _ => ?_⟩
    obtain ⟨m, hm⟩ := shut_slice_nil (enc := enc) (w := W') (base := 0) (spare := sp) (held := true) ht
    exact ⟨m, by simpa [Value.cells] using hm⟩
  · simp only [List.cons.injEq, and_true] at h1
    subst h1
    simp only [if_true] at hlen
    refine ⟨⟨some a, len, cap, rfl, by unfold maxLen at hm; omega, fun h0 => ?_⟩, fun W' sp hbel hsp => ?_⟩
    · have h00 := hcell 0 (by omega)
      have hsn : a.spot = none := by
        simp only [Addr.add, if_true, World.cell?] at h00
        split at h00
        · split at h00
          · cases h00
          · rename_i hs; simpa using hs
        · cases h00
      obtain ⟨b, off, sn⟩ := a
      simp only at hsn
      subst hsn
      refine ⟨b, off, rfl, fun j hj => ?_⟩
      have hj2 : j < zs.length := by omega
      have h4 : zs.getD j 0 = zs[j] := by simp [List.getD, hj2]
      have h3 := wf_u8 _ (hwf zs[j] (List.getElem_mem hj2))
      have := hcell j hj2
      rw [Addr.add_lit, h4] at this
      exact ⟨zs[j].toNat, by omega, by rw [this, Int.toNat_of_nonneg h3.1]⟩
    · refine ⟨0 + 2, shut_ints 0 ht he hc hb hl hm ?_ (fun i hi => ?_) hwf⟩
      · rcases Nat.eq_zero_or_pos zs.length with h0 | h0
        · split <;> omega
        · have : sp a.block = true := hsp (.cell a.block a.off) (by simp only [MemPlace.row, List.mem_map, List.mem_range]; exact ⟨0, h0, by simp⟩)
          rw [this]; simpa using hlen
      · have h1 := hcell i hi
        rw [Below.cell hbel (by have := World.block_lt_of_cell? W (a.add i) h1; exact this)]
        exact h1
/-- How an argument reads stays, however the memory grows. -/
def ReadsC (enc : TypeId × Value → H) (W : World) (t : TypeId) (v : Value) (d : DataW H) (p : List MemPlace) : Prop :=
  ∀ (W' : World) (sp : Nat → Bool), Below W.heap.size W W' → (∀ q ∈ p, sp q.block = true) → DataW.Trod enc Tryz.prog W' 0 sp true t v d p
set_option maxRecDepth 100000 in
theorem bytess_arg {W : World} {b0 : Nat} {r : Reach} {t : TypeId} {v : Value} {d : DataW H} {p : List MemPlace} (ht : Tryz.prog.underlying t = some (.slice 52)) (hv : Value.okWide Tryz.prog W r b0 t v) (h : DataW.Trod enc Tryz.prog W 0 (fun _ => true) true t v d p) : IsBys v W ∧ ReadsC enc W t v d p := by
  obtain ⟨a, n, c, rfl⟩ := okWide_slice ht hv
  obtain ⟨fuel, hf⟩ := h
  have ha : Tryz.prog.underlying 52 = some (.slice 5) := by kernel_rfl
  have hc : Tryz.prog.cellsOf 52 = 1 := by kernel_rfl
  rcases Go.Deep.open_slice1 ht hc (cs := [.slice a n c]) (x := (d, p)) (by simpa [Value.cells] using hf) with ⟨h1, h2⟩ | ⟨a', len, cap, m, fu, V, D, Pl, h1, hb, hl, hm, hmm, h2, hx⟩
  · simp only [List.cons.injEq, and_true] at h1
    cases h1
    cases h2
    refine ⟨⟨none, 0, 0, rfl, by decide, fun h => absurd rfl h⟩, fun W' sp _ _ => ?_⟩
    obtain ⟨m, hm⟩ := shut_slice_nil (enc := enc) (w := W') (base := 0) (spare := sp) (held := true) ht
    exact ⟨m, by simpa [Value.cells] using hm⟩
  · simp only [List.cons.injEq, and_true] at h1
    obtain ⟨rfl, rfl, rfl⟩ : a = some a' ∧ n = len ∧ c = cap := by injection h1 with q1 q2 q3; exact ⟨q1, q2, q3⟩
    simp only [if_true] at hmm
    subst hmm
    cases h2
    have hall := fun i (hi : i < m) => bytes_open (enc := enc) ha (hx i hi).2
    by_cases h0 : m = 0
    · subst h0
      obtain rfl : n = 0 := by omega
      refine ⟨⟨_, 0, 0, rfl, by decide, fun h => absurd rfl h⟩, fun W' sp _ _ => ?_⟩
      by_cases hs : sp a'.block = true
      · simpa using Go.Deep.shut_slice_whole (enc := enc) (w := W') (base := 0) (spare := sp) (held := true) ht (Nat.zero_le _) (Nat.le_refl _) hm hs D Pl (fun i hi => by omega)
      · simpa using Go.Deep.shut_slice (enc := enc) (w := W') (base := 0) (spare := sp) (held := true) ht (Nat.zero_le _) (Nat.le_refl _) hm (by simpa using hs) D Pl (fun i hi => by omega)
    · have h00 := (hx 0 (by omega)).1
      have hsn : a'.spot = none := by
        cases hq : a'.spot with
        | none => rfl
        | some q => simp [World.cell?, Addr.add, hq] at h00; split at h00 <;> cases h00
      obtain ⟨b, off, sn⟩ := a'
      simp only at hsn
      subst hsn
      have hcell : ∀ i, i < m → World.cell? W ⟨b, off + i, none⟩ = some (V i) := fun i hi => by have := (hx i hi).1; rwa [Addr.add_lit] at this
      refine ⟨⟨_, n, m, rfl, by unfold maxLen at hm; omega, fun hn => ⟨b, off, rfl, fun j hj => ⟨V j, hcell j (by omega), (hall j (by omega)).1⟩⟩⟩, fun W' sp hbel hsp => ?_⟩
      have hs : sp b = true := hsp (.cell b off) (by simp only [List.mem_append, MemPlace.row, List.mem_map, List.mem_range]; exact .inl ⟨0, by omega, by simp⟩)
      exact Go.Deep.shut_slice_whole1 (enc := enc) (w := W') (base := 0) (spare := sp) (held := true) ht hc (Nat.zero_le _) hl hm hs V D Pl (fun i hi => by rw [Below.cell hbel (World.block_lt_of_cell? W _ (hcell i hi))]; exact hcell i hi)
        (fun i hi => (hall i hi).2 W' sp hbel (fun q hq => hsp q (by simp only [List.mem_append, List.mem_flatMap, List.mem_range]; exact .inr ⟨i, hi, hq⟩)))
end
theorem handed_and_shaped {H : Type} {enc : TypeId × Value → H} {a : Assume} {C : Checked} {os : Os} {f : FuncId} {fn : Func} {s : ChangeSpec} {conds : List PathCond} {apart fresh handsOn again : Bool} {X : World → Array Value → Prop}
    (hX : ∀ (w w' : World) (args : Array Value), w.heap = w'.heap → X w args → X w' args)
    (own : ownKnob C.prog.godebug = none) (started : os.Started) (noInit : C.prog.inits.idxOf? f = none) (hfn : C.prog.funcs[f]? = some fn)
    (witness : ∃ (w : World) (tape : Tape) (i : Input), w.os = os ∧ (w.forCall tape i).Shaped C.prog ∧ i.vars = [] ∧ Input.okWide C.prog (w.forCall tape i) .any w.heap.size f i ∧
      ((s.pre enc C.prog fn conds apart (w.forCall tape i).memory i.args ∧ X (w.forCall tape i).memory i.args) ∧ sizedMet enc C.prog fn (OpenSpec.ofChange s) apart (w.forCall tape i).memory i.args) ∧ a.holds C.prog (lone (Frame.enter C.prog f i.args .normal) [] (w.forCall tape i)))
    (contract : ∀ (W : World) (base : Nat) (args : Array Value) (ds gs : List (DataW H)) (before : List MemPlace),
      (∀ (j : Nat) t v, fn.params[j]? = some t → args[j]? = some v → Value.okWide C.prog W .any base t v) →
      DataW.Whole enc C.prog fn.params.toList s.vars apart W args.toList ds gs before → X W args → W.ShapedOpen C.prog →
      Calls C.prog f args W fun e W' => ∃ v, e = .returned v ∧ s.post enc C.prog fn apart fresh handsOn again W args v W') :
    ReturnsInHanded a C os f .any (fun w args => (s.pre enc C.prog fn conds apart w args ∧ X w args) ∧ sizedMet enc C.prog fn (OpenSpec.ofChange s) apart w args) (s.post enc C.prog fn apart fresh handsOn again) := by
  refine returnsInHanded_of_calls own started noInit witness ?_
  intro w tape i _ hsh _ hok hpre _
  obtain ⟨_, _, _, fn', hfn', _, _, _, _, hval⟩ := hok
  have e : fn' = fn := Option.some.inj (hfn'.symm.trans hfn)
  subst e
  obtain ⟨⟨⟨ds, gs, before, hw, _⟩, hx⟩, _⟩ := hpre
  have hw' := DataW.Whole.of_heap (w' := w.forCall tape i) (by rfl) hw
  refine (contract (w.forCall tape i) w.heap.size i.args ds gs before hval hw' (hX _ _ _ (by rfl) hx) hsh).mono fun e W' ⟨v, he, hp⟩ => ?_
  subst he
  exact ChangeSpec.post_blind hp
theorem tab5 {W : World} (h : laidMetH Tryz.prog Rows.notebookRoundsRow.laid W) : Tab W := by
  rw [MakeChecks.laidMetH_plain _ _ _ (by kernel_rfl)] at h
  obtain ⟨ps, ⟨g0, t0, cs0, f0, p0, q0, hg0, ht0, hv0, hd0, ⟨g1, t1, cs1, f1, p1, q1, hg1, ht1, hv1, hd1, ⟨g2, t2, cs2, f2, p2, q2, hg2, ht2, hv2, hd2, _, _⟩, _⟩, _⟩, _, _⟩ := h
  have hty : (Tryz.prog.globals[g2]?).map (·.type) = some t2 := ht2
  have hg : Tryz.prog.globalNamed "internal/strconv.uint64pow10" = some 3 := by kernel_rfl
  obtain rfl := Option.some.inj (hg.symm.trans hg2)
  have ht : (Tryz.prog.globals[3]?).map (·.type) = some 216 := by kernel_rfl
  obtain rfl := Option.some.inj (ht.symm.trans ht2)
  unfold Tab Lib.TabIs
  rw [hv2, ← Lib.cells_of_tab (n := 20) (k := .u64) (e := 95) (zs := Lib.pow10Tab) (by kernel_rfl) (by kernel_rfl) (by kernel_rfl) (by kernel_rfl) hd2]
theorem tabM_of {W : World} (h : laidMetH Tryz.prog Rows.notebookRoundsRow.laid W) (hs : W.ShapedOpen Tryz.prog) : TabM W :=
  ⟨tab5 h, cell_of_shapedOpen_int (g := 0) (t := 3) (zero := #[.int .i64 0]) (k := .i64) hs (of_decide_eq_true (by kernel_rfl)) (by kernel_rfl) rfl (by kernel_rfl) (by kernel_rfl) (by kernel_rfl)⟩
end Go.Proofs.YtenhciieboegbaaGreatDoor
