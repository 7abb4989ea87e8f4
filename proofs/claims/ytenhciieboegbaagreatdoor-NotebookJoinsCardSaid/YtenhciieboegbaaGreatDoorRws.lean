/-
  The row parts of the notebook's laws: bytes and rows of bytes as arguments; what a row's world gives. (Printed by wip/gen/nrr.py.)
  The law NotebookRounds at every input. (Printed by wip/gen/nro.py.)
  Rows of words that a call has made, as slices with room: written, read, appended to. No condition.
-/
import Derived.Test.YtenhciieboegbaaGreatDoorNmd
import Derived.Test.YtenhciieboegbaaGreatDoorRows
import Derived.LaidMore
import Derived.MakeChecks
import Derived.Lib.SmallJoins
import Derived.ChangeSlices
import Derived.ChangeSame
import Derived.Below
import Derived.ProofKit
import Derived.Stop.Joined
import Derived.OpenShut
import Derived.SizedLaws
import Derived.Shelf.Vars
import Derived.Deep.Slices
import Derived.Test.YtenhciieboegbaaGreatDoorRow
namespace Go.Proofs.YtenhciieboegbaaGreatDoor
open Go Go.RowKit Go.ChangeShapes Go.WideShapes Go.ChangeAt Go.Joins
section
variable {H : Type} {enc : TypeId × Value → H}
theorem post_of_below {P : Program} {f : Func} {s : ChangeSpec} {apart fresh handsOn again : Bool} {W W' : World} {args : Array Value} {v : Value} {ds gs : List (DataW H)} {before pa pv : List MemPlace}
    (hW : DataW.Whole enc P f.params.toList s.vars apart W args.toList ds gs before)
    (hres : ∀ (b : Nat) (sp : Nat → Bool) (hd : Bool), DataW.TrodAll enc P W' b sp hd f.resultTypes.toList (v.resultList f.resultTypes.size) (s.fn H (ds ++ gs)).results [])
    (hargs : ∀ sp : Nat → Bool, (∀ p ∈ before, sp p.block = true) → DataW.TrodAll enc P W' 0 sp true f.params.toList args.toList (s.fn H (ds ++ gs)).args pa)
    (hvars : ∀ sp : Nat → Bool, (∀ p ∈ before, sp p.block = true) → DataW.TrodVars enc P W' sp s.vars (s.fn H (ds ++ gs)).vars pv)
    (hps : before = pa ++ pv) (hb : Below W.heap.size W W')
    (hok : ∀ (j : Nat) (t : TypeId) (r : Value), f.resultTypes[j]? = some t → (v.resultList f.resultTypes.size)[j]? = some r → Value.okWide P W' .any 0 t r) :
    s.post enc P f apart fresh handsOn again W args v W' := by
  have hlt : ∀ p ∈ before, p.block < W.heap.size := fun p hp => hW.lt p hp
  have hold : ∀ p ∈ before, (fun b => decide (b < W.heap.size)) p.block = true := fun p hp => by simpa using hlt p hp
  refine ⟨ds, gs, before, [], pa, pv, hW, hres _ _ _, hargs _ hold, hvars _ hold, World.keptBut_mono (fun p hp => ⟨hp, ?_⟩) (hb.frame (· ∈ before)), fun _ => ?_⟩
  · rw [hps, List.mem_append] at hp
    exact Or.inr hp
  · obtain ⟨_, _, _, _, _, hz, hn⟩ := hW
    refine ⟨hok, _, _, ([] ++ pa) ++ pv, ⟨[] ++ pa, pv, trodAll_append (hargs _ (fun _ _ => rfl)) (hres _ _ _), hvars _ (fun _ _ => rfl), rfl, ?_, ?_⟩, ?_⟩
    · intro b off hp
      have hin : MemPlace.cell b off ∈ before := by rw [hps]; simpa using hp
      rw [hb.frozen (hlt _ hin)]
      exact hz b off hin
    · intro ha
      have := hn ha
      rw [hps] at this
      simpa using this
    · intro p hp _
      rw [hps]
      simpa using hp
end
theorem own : ownKnob Tryz.prog.godebug = none := by kernel_rfl
theorem wf_u8 (n : Int) (h : (Lit.int .u8 n).wf = true) : 0 ≤ n ∧ n ≤ 255 := by
  simp only [Lit.wf, Bool.and_eq_true, decide_eq_true_eq] at h
  have h1 : IntKind.min .u8 = 0 := rfl
  have h2 : IntKind.max .u8 = 255 := rfl
  rw [h1, h2] at h
  exact h
section
variable {H : Type} {enc : TypeId × Value → H}
theorem bytes_open {W : World} {t : TypeId} (ht : Tryz.prog.underlying t = some (.slice 5)) {fuel : Nat} {c : Value} {y : DataW H × List MemPlace} (h : DataW.trod enc Tryz.prog W 0 (fun _ => true) true fuel t [c] = some y) :
    IsBy c W ∧ ∀ (W' : World) (sp : Nat → Bool), Below W.heap.size W W' → (∀ q ∈ y.2, sp q.block = true) → ∃ m, DataW.trod enc Tryz.prog W' 0 sp true m t [c] = some y := by
  have he : Tryz.prog.underlying 5 = some (.int .u8) := by kernel_rfl
  have hc : Tryz.prog.cellsOf 5 = 1 := by kernel_rfl
  rcases open_ints ht he hc h with ⟨h1, rfl⟩ | ⟨a, len, cap, zs, h1, hb, hl, hm, hlen, rfl, hcell, hwf⟩
  · simp only [List.cons.injEq, and_true] at h1
    subst h1
    refine ⟨⟨none, 0, 0, rfl, by decide, fun h => absurd rfl h⟩, fun W' sp _ _ => ?_⟩
    obtain ⟨m, hm⟩ := shut_slice_nil (enc := enc) (w := W') (base := 0) (spare := sp) (held := true) ht
    exact ⟨m, by simpa [Value.cells] using hm⟩
  · simp only [List.cons.injEq, and_true] at h1
    subst h1
    simp only [if_true] at hlen
    refine ⟨⟨some a, len, cap, rfl, by unfold maxLen at hm; omega, fun h0 => ?_⟩, fun W' sp hbel hsp => ?_⟩
    · have h00 := hcell 0 (by omega)
      have hsn : a.spot = none := by
        simp only [Addr.add, if_true, World.cell?] at h00
        split at h00
        · split at h00
          · cases h00
          · rename_i hs; simpa using hs
        · cases h00
      obtain ⟨b, off, sn⟩ := a
      simp only at hsn
      subst hsn
      refine ⟨b, off, rfl, fun j hj => ?_⟩
      have hj2 : j < zs.length := by omega
      have h4 : zs.getD j 0 = zs[j] := by simp [List.getD, hj2]
      have h3 := wf_u8 _ (hwf zs[j] (List.getElem_mem hj2))
      have := hcell j hj2
      rw [Addr.add_lit, h4] at this
      exact ⟨zs[j].toNat, by omega, by rw [this, Int.toNat_of_nonneg h3.1]⟩
    · refine ⟨0 + 2, shut_ints 0 ht he hc hb hl hm ?_ (fun i hi => ?_) hwf⟩
      · rcases Nat.eq_zero_or_pos zs.length with h0 | h0
        · split <;> omega
        · have : sp a.block = true := hsp (.cell a.block a.off) (by simp only [MemPlace.row, List.mem_map, List.mem_range]; exact ⟨0, h0, by simp⟩)
          rw [this]; simpa using hlen
      · have h1 := hcell i hi
        rw [Below.cell hbel (by have := World.block_lt_of_cell? W (a.add i) h1; exact this)]
        exact h1
/-- How an argument reads stays, however the memory grows. -/
def ReadsC (enc : TypeId × Value → H) (W : World) (t : TypeId) (v : Value) (d : DataW H) (p : List MemPlace) : Prop :=
  ∀ (W' : World) (sp : Nat → Bool), Below W.heap.size W W' → (∀ q ∈ p, sp q.block = true) → DataW.Trod enc Tryz.prog W' 0 sp true t v d p
set_option maxRecDepth 100000 in
theorem bytess_arg {W : World} {b0 : Nat} {r : Reach} {t : TypeId} {v : Value} {d : DataW H} {p : List MemPlace} (ht : Tryz.prog.underlying t = some (.slice 52)) (hv : Value.okWide Tryz.prog W r b0 t v) (h : DataW.Trod enc Tryz.prog W 0 (fun _ => true) true t v d p) : IsBys v W ∧ ReadsC enc W t v d p := by
  obtain ⟨a, n, c, rfl⟩ := okWide_slice ht hv
  obtain ⟨fuel, hf⟩ := h
  have ha : Tryz.prog.underlying 52 = some (.slice 5) := by kernel_rfl
  have hc : Tryz.prog.cellsOf 52 = 1 := by kernel_rfl
  rcases Go.Deep.open_slice1 ht hc (cs := [.slice a n c]) (x := (d, p)) (by simpa [Value.cells] using hf) with ⟨h1, h2⟩ | ⟨a', len, cap, m, fu, V, D, Pl, h1, hb, hl, hm, hmm, h2, hx⟩
  · simp only [List.cons.injEq, and_true] at h1
    cases h1
    cases h2
    refine ⟨⟨none, 0, 0, rfl, by decide, fun h => absurd rfl h⟩, fun W' sp _ _ => ?_⟩
    obtain ⟨m, hm⟩ := shut_slice_nil (enc := enc) (w := W') (base := 0) (spare := sp) (held := true) ht
    exact ⟨m, by simpa [Value.cells] using hm⟩
  · simp only [List.cons.injEq, and_true] at h1
    obtain ⟨rfl, rfl, rfl⟩ : a = some a' ∧ n = len ∧ c = cap := by injection h1 with q1 q2 q3; exact ⟨q1, q2, q3⟩
    simp only [if_true] at hmm
    subst hmm
    cases h2
    have hall := fun i (hi : i < m) => bytes_open (enc := enc) ha (hx i hi).2
    by_cases h0 : m = 0
    · subst h0
      obtain rfl : n = 0 := by omega
      refine ⟨⟨_, 0, 0, rfl, by decide, fun h => absurd rfl h⟩, fun W' sp _ _ => ?_⟩
      by_cases hs : sp a'.block = true
      · simpa using Go.Deep.shut_slice_whole (enc := enc) (w := W') (base := 0) (spare := sp) (held := true) ht (Nat.zero_le _) (Nat.le_refl _) hm hs D Pl (fun i hi => by omega)
      · simpa using Go.Deep.shut_slice (enc := enc) (w := W') (base := 0) (spare := sp) (held := true) ht (Nat.zero_le _) (Nat.le_refl _) hm (by simpa using hs) D Pl (fun i hi => by omega)
    · have h00 := (hx 0 (by omega)).1
      have hsn : a'.spot = none := by
        cases hq : a'.spot with
        | none => rfl
        | some q => simp [World.cell?, Addr.add, hq] at h00; split at h00 <;> cases h00
      obtain ⟨b, off, sn⟩ := a'
      simp only at hsn
      subst hsn
      have hcell : ∀ i, i < m → World.cell? W ⟨b, off + i, none⟩ = some (V i) := fun i hi => by have := (hx i hi).1; rwa [Addr.add_lit] at this
      refine ⟨⟨_, n, m, rfl, by unfold maxLen at hm; omega, fun hn => ⟨b, off, rfl, fun j hj => ⟨V j, hcell j (by omega), (hall j (by omega)).1⟩⟩⟩, fun W' sp hbel hsp => ?_⟩
      have hs : sp b = true := hsp (.cell b off) (by simp only [List.mem_append, MemPlace.row, List.mem_map, List.mem_range]; exact .inl ⟨0, by omega, by simp⟩)
      exact Go.Deep.shut_slice_whole1 (enc := enc) (w := W') (base := 0) (spare := sp) (held := true) ht hc (Nat.zero_le _) hl hm hs V D Pl (fun i hi => by rw [Below.cell hbel (World.block_lt_of_cell? W _ (hcell i hi))]; exact hcell i hi)
        (fun i hi => (hall i hi).2 W' sp hbel (fun q hq => hsp q (by simp only [List.mem_append, List.mem_flatMap, List.mem_range]; exact .inr ⟨i, hi, hq⟩)))
end
theorem handed_and_shaped {H : Type} {enc : TypeId × Value → H} {a : Assume} {C : Checked} {os : Os} {f : FuncId} {fn : Func} {s : ChangeSpec} {conds : List PathCond} {apart fresh handsOn again : Bool} {X : World → Array Value → Prop}
    (hX : ∀ (w w' : World) (args : Array Value), w.heap = w'.heap → X w args → X w' args)
    (own : ownKnob C.prog.godebug = none) (started : os.Started) (noInit : C.prog.inits.idxOf? f = none) (hfn : C.prog.funcs[f]? = some fn)
    (witness : ∃ (w : World) (tape : Tape) (i : Input), w.os = os ∧ (w.forCall tape i).Shaped C.prog ∧ i.vars = [] ∧ Input.okWide C.prog (w.forCall tape i) .any w.heap.size f i ∧
      ((s.pre enc C.prog fn conds apart (w.forCall tape i).memory i.args ∧ X (w.forCall tape i).memory i.args) ∧ sizedMet enc C.prog fn (OpenSpec.ofChange s) apart (w.forCall tape i).memory i.args) ∧ a.holds C.prog (lone (Frame.enter C.prog f i.args .normal) [] (w.forCall tape i)))
    (contract : ∀ (W : World) (base : Nat) (args : Array Value) (ds gs : List (DataW H)) (before : List MemPlace),
      (∀ (j : Nat) t v, fn.params[j]? = some t → args[j]? = some v → Value.okWide C.prog W .any base t v) →
      DataW.Whole enc C.prog fn.params.toList s.vars apart W args.toList ds gs before → X W args → W.ShapedOpen C.prog →
      Calls C.prog f args W fun e W' => ∃ v, e = .returned v ∧ s.post enc C.prog fn apart fresh handsOn again W args v W') :
    ReturnsInHanded a C os f .any (fun w args => (s.pre enc C.prog fn conds apart w args ∧ X w args) ∧ sizedMet enc C.prog fn (OpenSpec.ofChange s) apart w args) (s.post enc C.prog fn apart fresh handsOn again) := by
  refine returnsInHanded_of_calls own started noInit witness ?_
  intro w tape i _ hsh _ hok hpre _
  obtain ⟨_, _, _, fn', hfn', _, _, _, _, hval⟩ := hok
  have e : fn' = fn := Option.some.inj (hfn'.symm.trans hfn)
  subst e
  obtain ⟨⟨⟨ds, gs, before, hw, _⟩, hx⟩, _⟩ := hpre
  have hw' := DataW.Whole.of_heap (w' := w.forCall tape i) (by rfl) hw
  refine (contract (w.forCall tape i) w.heap.size i.args ds gs before hval hw' (hX _ _ _ (by rfl) hx) hsh).mono fun e W' ⟨v, he, hp⟩ => ?_
  subst he
  exact ChangeSpec.post_blind hp
theorem tab5 {W : World} (h : laidMetH Tryz.prog Rows.notebookRoundsRow.laid W) : Tab W := by
  rw [MakeChecks.laidMetH_plain _ _ _ (by kernel_rfl)] at h
  obtain ⟨ps, ⟨g0, t0, cs0, f0, p0, q0, hg0, ht0, hv0, hd0, ⟨g1, t1, cs1, f1, p1, q1, hg1, ht1, hv1, hd1, ⟨g2, t2, cs2, f2, p2, q2, hg2, ht2, hv2, hd2, _, _⟩, _⟩, _⟩, _, _⟩ := h
  have hty : (Tryz.prog.globals[g2]?).map (·.type) = some t2 := ht2
  have hg : Tryz.prog.globalNamed "internal/strconv.uint64pow10" = some 3 := by kernel_rfl
  obtain rfl := Option.some.inj (hg.symm.trans hg2)
  have ht : (Tryz.prog.globals[3]?).map (·.type) = some 216 := by kernel_rfl
  obtain rfl := Option.some.inj (ht.symm.trans ht2)
  unfold Tab Lib.TabIs
  rw [hv2, ← Lib.cells_of_tab (n := 20) (k := .u64) (e := 95) (zs := Lib.pow10Tab) (by kernel_rfl) (by kernel_rfl) (by kernel_rfl) (by kernel_rfl) hd2]
theorem tabM_of {W : World} (h : laidMetH Tryz.prog Rows.notebookRoundsRow.laid W) (hs : W.ShapedOpen Tryz.prog) : TabM W :=
  ⟨tab5 h, cell_of_shapedOpen_int (g := 0) (t := 3) (zero := #[.int .i64 0]) (k := .i64) hs (of_decide_eq_true (by kernel_rfl)) (by kernel_rfl) rfl (by kernel_rfl) (by kernel_rfl) (by kernel_rfl)⟩
end Go.Proofs.YtenhciieboegbaaGreatDoor
namespace Go.Proofs.YtenhciieboegbaaGreatDoor
open Go Go.RowKit Go.Maps
theorem MdL.ok {l : List Cl} (h : MdL l) : (∀ c ∈ l, TrC c ∧ nameB c.nm = true) ∧ (l.map Cl.nm).Nodup ∧ NmOk l := by
  have h4 : ∀ k : Nat, k ≤ 4 → (nmCs.take k).Nodup := by decide
  have h5 : ∀ s ∈ nmCs, nameB s = true ∧ s.length ≤ 1000000 := by decide
  have h6 : ∀ c ∈ l, c.nm ∈ nmCs := fun c hc => List.mem_of_mem_take (h.2.1 ▸ List.mem_map_of_mem hc)
  exact ⟨fun c hc => ⟨h.2.2 c hc, (h5 _ (h6 c hc)).1⟩, by rw [h.2.1]; exact h4 _ h.1, fun c hc => (h5 _ (h6 c hc)).2⟩
theorem MdL.pr {l : List Cl} (h : MdL l) : prE l = 0 ∧ prS l = shL l ∧ paE (shL l) = (l, 0) ∧ (shL l).length ≤ 20000 := by
  have h1 := tr_pr h.ok.1 h.ok.2.1 (by have := h.1; omega)
  refine ⟨h1, by rw [prS, if_pos h1], pa_sh h1, ?_⟩
  unfold prE at h1
  split at h1
  · split at h1
    · cases h1
    · omega
  · cases h1
theorem sameB_self (l : List Cl) : sameB l l = true := (sameB_iff l l).2 rfl
end Go.Proofs.YtenhciieboegbaaGreatDoor
namespace Go.Proofs.YtenhciieboegbaaGreatDoor
open Go Go.RowKit

theorem RowOf.set {e : TypeId} {ok : Value → Prop} {w : World} {base : Nat} {xs : List Value} {g n cap : Nat} (h : RowOf e ok w base (.slice (some ⟨g, 0, none⟩) n cap) xs) (j : Nat) (u : Value) (hu : ok u) :
    RowOf e ok (w.setCell ⟨g, j, none⟩ u) base (.slice (some ⟨g, 0, none⟩) n cap) (xs.set j u) ∧ Below base w (w.setCell ⟨g, j, none⟩ u) := by
  rcases h with ⟨h, rfl⟩ | ⟨g', cap', cur, h1, h2, h3, h4, h5, h6, h7, h8⟩
  · cases h
  · simp only [Value.slice.injEq, Option.some.injEq, Addr.mk.injEq, and_true] at h1
    obtain ⟨rfl, rfl, rfl⟩ := h1
    refine ⟨.inr ⟨g, cap, cur.setIfInBounds j u, by simp, h2, ?_, by simpa using h4, h5, by simpa using h6, ?_, ?_⟩, (Below.refl base w).setCell h2 u⟩
    · simp only [World.setCell, Array.getElem?_modify, if_true]
      rw [h3]
      simp
    · rw [Array.toList_setIfInBounds, List.length_set, List.take_set, h7]
    · intro i v hv
      rw [Array.getElem?_setIfInBounds] at hv
      split at hv
      · split at hv
        · simp at hv; rw [← hv]; exact hu
        · simp at hv
      · exact h8 i v hv

def isU32 (x : Value) : Prop := ∃ n : Nat, x = .int .u32 (n : Int)
theorem RowOf.wd {w : World} {base n cap : Nat} {ao : Option Addr} {xs : List Nat} (h : RowOf 97 isU32 w base (.slice ao n cap) (wcells xs)) (hx : ∀ i, xs.getD i 0 < 4294967296) : Wd w ao n cap xs := by
  have h0 := h
  rcases h with ⟨h, hw⟩ | ⟨g, cap', cur, h1, h2, h3, h4, h5, h6, h7, h8⟩
  · simp only [Value.slice.injEq] at h
    obtain ⟨rfl, rfl, rfl⟩ := h
    have : xs = [] := by simpa [wcells] using hw
    rw [this]; exact wd_nil _ _ _ (by omega)
  · simp only [Value.slice.injEq] at h1
    obtain ⟨rfl, rfl, rfl⟩ := h1
    refine ⟨(wcells_length xs).symm, h4, h5, hx, .inr ⟨g, 0, rfl, heap_lt h3, fun j hj => ?_⟩⟩
    rw [Nat.zero_add]
    exact h0.cell j _ (wcells_getElem? xs j (by rw [wcells_length] at hj; exact hj))

/-- A row of words of the call's own, made since 'base'. -/
def Rw (w : World) (base : Nat) (v : Value) (xs : List Nat) : Prop := RowOf 97 isU32 w base v (wcells xs) ∧ ∀ i, xs.getD i 0 < 4294967296
theorem Rw.ext {w w' : World} {base : Nat} {v : Value} {xs : List Nat} (h : Rw w base v xs) (e : Ext w w') : Rw w' base v xs := ⟨h.1.ext e, h.2⟩
theorem Rw.shape {w : World} {base : Nat} {v : Value} {xs : List Nat} (h : Rw w base v xs) : ∃ ao cap, v = .slice ao xs.length cap ∧ (xs ≠ [] → ∃ g, ao = some ⟨g, 0, none⟩ ∧ base ≤ g ∧ g < w.heap.size) ∧ xs.length ≤ cap ∧ cap ≤ 9223372036854775807 := by
  obtain ⟨ao, cap, h1, h2, h3, h4⟩ := h.1.shape
  rw [wcells_length] at h1 h3
  exact ⟨ao, cap, h1, fun hx => h2 (fun h => hx (List.map_eq_nil_iff.1 h)), h3, h4⟩
theorem Rw.start (w : World) (base : Nat) (h : base ≤ w.heap.size) : Rw (w.alloc (.cells #[] 97)) base (.slice (some ⟨w.heap.size, 0, none⟩) 0 0) [] :=
  ⟨.inr ⟨w.heap.size, 0, #[], rfl, h, heap_alloc_new _ _, by simp [wcells], by omega, rfl, by simp [wcells], by simp⟩, fun i => by simp⟩
/-- append([]uint32{}, x...): a row of the call's own. -/
theorem app_row (w : World) (base g : Nat) (ao : Option Addr) (n cap : Nat) (xs : List Nat) (h : Wd w ao n cap xs) (hn : n ≤ 1099511627776) (hr : Rw w base (.slice (some ⟨g, 0, none⟩) 0 0) []) (hbase : base ≤ w.heap.size) (ty : TypeId) :
    ∃ v w', (Builtin.append_ #[27, 27] ty #[.slice (some ⟨g, 0, none⟩) 0 0, .slice ao n cap]).run Tryz.prog w = .ok v w' ∧ Ext w w' ∧ Rw w' base v xs := by
  obtain ⟨i, hi, hz0, hz1, hz2⟩ := info_parts Tryz.infoU32
  have hu : Tryz.prog.underlying 27 = some (.slice 97) := by kernel_rfl
  have hlen := h.len
  rcases Nat.eq_zero_or_pos n with h0 | h0
  · subst h0
    obtain rfl : xs = [] := List.eq_nil_of_length_eq_zero hlen
    have hsrc : Src Tryz.prog i.size 27 (.slice ao 0 cap) 0 [] w := by
      cases ao with
      | none => exact Src.ofNil w hu cap
      | some a => exact Src.ofSlice w hu a 0 cap [] (by simp) (by simp) (fun _ h => by cases h)
    have := run_append_room_src w 27 27 ty 97 i hu hi g 0 0 0 (.slice ao 0 cap) 0 [] hsrc (by omega) (fun j hj => by simp at hj) (fun j hj => by simp at hj)
    exact ⟨_, _, this, Ext.refl w, hr⟩
  · rcases h.at_ with h1 | ⟨b, off, rfl, hb, hc⟩
    · omega
    · have hnews : ∀ j u, (wcells xs)[j]? = some u → w.cell? ((⟨b, off, none⟩ : Addr).add j) = some u := fun j u hj => by
        have hjn : j < n := by
          rcases Nat.lt_or_ge j n with h | h
          · exact h
          · rw [List.getElem?_eq_none (by rw [wcells_length]; omega)] at hj; cases hj
        rw [wcells_getElem? _ _ (by omega)] at hj
        rw [Addr.add_lit, hc j hjn]; exact hj
      have hsrc : Src Tryz.prog i.size 27 (.slice (some ⟨b, off, none⟩) n cap) n (wcells xs) w :=
        Src.ofSlice w hu _ n cap (wcells xs) (by rw [wcells_length, hlen, hz1, Nat.mul_one]) hnews (fun v hv => by
          simp only [wcells, List.mem_map] at hv
          obtain ⟨y, _, rfl⟩ := hv
          rfl)
      have hge := grownCap_ge w n 0 97
      have hle := grownCap_le_maxLen w n 0 97 (by unfold maxLen; omega)
      have hrun := run_append_grow_src w 27 27 ty 97 i (.int .u32 0) hu hi hz0 (some ⟨g, 0, none⟩) 0 0 [] (run_firstCells_some w.drew i.size 0 ⟨g, 0, none⟩ 0 0 [] (by simp) (by simp)) (.slice (some ⟨b, off, none⟩) n cap) n (wcells xs) hsrc
        (by omega) (by omega) (by rw [Nat.zero_add]; exact growslice_fits (by omega) (by rw [hz2]; omega))
      rw [Nat.zero_add] at hrun
      refine ⟨_, _, hrun, (Ext.refl w).drew.alloc _, ⟨.inr ⟨w.heap.size, _, _, by rw [wcells_length, hlen], hbase, heap_alloc_new w.drew _, ?_, ?_, ?_, ?_, ?_⟩, h.lt⟩⟩
      · rw [wcells_length, hlen]; exact hge
      · unfold maxLen at hle; omega
      · simp only [List.nil_append, Array.size_append, List.size_toArray, wcells_length, hlen, size_zeroCells]
        first | (simp [Value.cells]; done) | (simp [Value.cells]; omega)
      · rw [Array.toList_append]; exact List.take_left
      · intro j y hj
        have hmem := List.mem_of_getElem? (by rw [Array.getElem?_toList]; exact hj)
        rw [Array.toList_append] at hmem
        rcases List.mem_append.1 hmem with h | h
        · have h9 : y ∈ wcells xs := by simpa using h
          simp only [wcells, List.mem_map] at h9
          obtain ⟨z, _, rfl⟩ := h9
          exact ⟨z, rfl⟩
        · have hz : (Value.int .u32 0).cells = #[.int .u32 0] := rfl
          rw [hz, toList_zeroCells_one] at h
          rw [(List.mem_replicate.1 h).2]; exact ⟨0, rfl⟩
theorem wpl_app {w : World} {ops : Array Oper} {rest : List Oper} {o : Oper} {a : Act} {Q : Exit → Act → World → Prop} (hgd : o.guard = none) (s x : Operand)
    (ho : o.op = Op.call { callee := Callee.builtin Builtin.append, args := #[s, x], argTypes := #[27, 27] })
    (base g : Nat) (ao : Option Addr) (n cap : Nat) (xs : List Nat) (hs : a.eval s = .slice (some ⟨g, 0, none⟩) 0 0) (hx : a.eval x = .slice ao n cap) (h : Wd w ao n cap xs) (hn : n ≤ 1099511627776) (hr : Rw w base (.slice (some ⟨g, 0, none⟩) 0 0) []) (hbase : base ≤ w.heap.size)
    (hK : ∀ v w', Ext w w' → Rw w' base v xs → wpList Tryz.prog ops Q rest (a.put o.dst v) w') : wpList Tryz.prog ops Q (o :: rest) a w := by
  obtain ⟨v, w', hrun, e, hv⟩ := app_row w base g ao n cap xs h hn hr hbase o.type
  refine wpList_plain hgd fun K hK' => ?_
  unfold Oper.wp
  simp [execOp, ho, resolve, invoke, builtin, hs, hx, hrun, Result.andThen]
  exact hK' _ _ (hK v w' e hv)

/-- Only block g has changed among those that were there; the heap may have grown. -/
def Upd (g : Nat) (w w' : World) : Prop := Below g w w' ∧ ∀ b, b ≠ g → b < w.heap.size → w'.heap[b]? = w.heap[b]?
theorem Upd.refl (g : Nat) (w : World) : Upd g w w := ⟨Below.refl _ _, fun _ _ _ => rfl⟩
theorem Upd.trans {g : Nat} {a b c : World} (h : Upd g a b) (k : Upd g b c) : Upd g a c :=
  ⟨Below.trans h.1 k.1, fun x hx hl => (k.2 x hx (Nat.lt_of_lt_of_le hl (Below.size h.1))).trans (h.2 x hx hl)⟩
theorem Upd.set (g j : Nat) (w : World) (v : Value) : Upd g w (w.setCell ⟨g, j, none⟩ v) :=
  ⟨(Below.refl g w).setCell (Nat.le_refl _) v, fun _ hb _ => Below.heap_setCell _ _ _ _ hb⟩
theorem Upd.ext {g : Nat} {w0 w w' : World} (u : Upd g w w') (e : Ext w0 w) (hg : w0.heap.size ≤ g) : Ext w0 w' := Below.ext e u.1 hg
theorem Bx.upd {g b n c : Nat} {s : Bool} {a : Option Addr} {w w' : World} (h : Bx w b s a n c) (u : Upd g w w') (hb : b ≠ g) : Bx w' b s a n c := by
  have h5 := u.2 b hb h.lt
  obtain ⟨h1, h2, h3, h4⟩ := h
  simp only [World.cell?, World.frozen?] at *
  exact ⟨by simp only [World.cell?]; rw [h5]; exact h1, by simp only [World.cell?]; rw [h5]; exact h2, by simp only [World.frozen?]; rw [h5]; exact h3, by simp only [World.frozen?]; rw [h5]; exact h4⟩
/-- A write of one word. -/
theorem Rw.put {w : World} {base g n cap : Nat} {xs : List Nat} (h : Rw w base (.slice (some ⟨g, 0, none⟩) n cap) xs) (j y : Nat) (hj : j < xs.length) (hy : y < 4294967296) : Rw (w.setCell ⟨g, j, none⟩ (.int .u32 (y : Int))) base (.slice (some ⟨g, 0, none⟩) n cap) (xs.set j y) := by
  refine ⟨?_, fun i => ?_⟩
  · have := (h.1.set j (.int .u32 (y : Int)) ⟨y, rfl⟩).1
    rwa [show (wcells xs).set j (Value.int .u32 (y : Int)) = wcells (xs.set j y) by simp [wcells, List.map_set]] at this
  · rw [getD_set _ _ _ _ hj]; split
    · exact hy
    · exact h.2 i
theorem Rw.cell {w : World} {base g n cap : Nat} {xs : List Nat} (h : Rw w base (.slice (some ⟨g, 0, none⟩) n cap) xs) (j : Nat) (hj : j < xs.length) : w.cell? ⟨g, j, none⟩ = some (.int .u32 ((xs.getD j 0 : Nat) : Int)) := h.1.cell j _ (wcells_getElem? xs j hj)
theorem Rw.free {w : World} {base g n cap : Nat} {xs : List Nat} (h : Rw w base (.slice (some ⟨g, 0, none⟩) n cap) xs) (j : Nat) : w.frozen? ⟨g, j, none⟩ = false := h.1.free j
end Go.Proofs.YtenhciieboegbaaGreatDoor
