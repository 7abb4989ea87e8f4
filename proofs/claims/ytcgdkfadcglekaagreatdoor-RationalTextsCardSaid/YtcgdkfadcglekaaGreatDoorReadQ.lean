/-
  How descriptions of fractions, and fractions, read as arguments. No condition.
-/
import Derived.Test.YtcgdkfadcglekaaGreatDoorRead
namespace Go.Proofs.YtcgdkfadcglekaaGreatDoor
open Go Go.RowKit Go.ChangeShapes Go.WideShapes Go.ChangeAt Go.Joins
set_option maxRecDepth 100000

section
variable {H : Type} {enc : TypeId × Value → H}
/-- Two cells: a sign and words. -/
def Cells2 (P : Program) (enc : TypeId × Value → H) (t : TypeId) : Prop := ∀ (W : World) (n : Nat) (cs : List Value) (y : DataW H × List MemPlace), DataW.trod enc P W 0 (fun _ => true) true n t cs = some y →
  ∃ s ao m cap xs, cs = [.bool s, .slice ao m cap] ∧ Wd W ao m cap xs ∧ ∀ (W' : World) (sp : Nat → Bool), Below W.heap.size W W' → (∀ q ∈ y.2, sp q.block = true) → ∃ k, DataW.trod enc P W' 0 sp true k t cs = some y
theorem cells2_of {t : TypeId} {f0 f1 : Field} (ht : Tryz.prog.underlying t = some (.struct #[f0, f1])) (hb : f0.type = 4) (hw : Tryz.prog.underlying f1.type = some (.slice 86)) (h0 : f0.offset = 0) (h1 : f1.offset = 1) (c0 : Tryz.prog.cellsOf f0.type = 1) (c1 : Tryz.prog.cellsOf f1.type = 1) (hC : Tryz.prog.cellsOf t = 2) : Cells2 Tryz.prog enc t := by
  intro W n cs y h
  obtain ⟨y0, y1, m, rfl, hl, k0, k1⟩ := trod_struct2 ht h
  rw [hC] at hl
  match cs, hl with
  | [v0, v1], _ =>
    simp only [h0, h1, c0, c1, List.drop_zero, List.take_succ_cons, List.take_zero, List.drop_succ_cons] at k0 k1
    rw [hb] at k0
    obtain ⟨s, hs, rfl⟩ := DataW.trod_bool (by kernel_rfl) k0
    simp only [List.cons.injEq, and_true] at hs
    subst hs
    obtain ⟨ao, l, cap, xs, rfl, hwd, hr⟩ := words_open hw k1
    refine ⟨s, ao, l, cap, xs, rfl, hwd, fun W' sp hbel hsp => ?_⟩
    obtain ⟨n1, t1⟩ := hr W' sp hbel (fun q hq => hsp q (by simpa using hq))
    refine ⟨max 1 n1 + 1, trod_struct2_mk (n := max 1 n1) ht (by rw [hC]; rfl) ?_ ?_⟩
    · simp only [h0, c0, List.drop_zero, List.take_succ_cons, List.take_zero]
      rw [hb]
      exact DataW.trod_le (Nat.le_max_left 1 n1) (by simp [DataW.trod, show Tryz.prog.underlying 4 = some .bool by kernel_rfl])
    · simp only [h1, c1, List.take_succ_cons, List.take_zero, List.drop_succ_cons, List.drop_zero]
      exact DataW.trod_le (Nat.le_max_right 1 n1) t1
theorem cells2_Raw : Cells2 Tryz.prog enc 24 := cells2_of Tryz.underlying24 rfl (by kernel_rfl) rfl rfl (by kernel_rfl) (by kernel_rfl) (by kernel_rfl)
/-- Four cells: two such. -/
def Cells4 (P : Program) (enc : TypeId × Value → H) (t : TypeId) : Prop := ∀ (W : World) (n : Nat) (cs : List Value) (y : DataW H × List MemPlace), DataW.trod enc P W 0 (fun _ => true) true n t cs = some y →
  ∃ s ao m cap xs s' ao' m' cap' xs', cs = [.bool s, .slice ao m cap, .bool s', .slice ao' m' cap'] ∧ Wd W ao m cap xs ∧ Wd W ao' m' cap' xs' ∧ ∀ (W' : World) (sp : Nat → Bool), Below W.heap.size W W' → (∀ q ∈ y.2, sp q.block = true) → ∃ k, DataW.trod enc P W' 0 sp true k t cs = some y
theorem cells4_of {t : TypeId} {f0 f1 : Field} (ht : Tryz.prog.underlying t = some (.struct #[f0, f1])) (e0 : Cells2 Tryz.prog enc f0.type) (e1 : Cells2 Tryz.prog enc f1.type) (h0 : f0.offset = 0) (h1 : f1.offset = 2) (c0 : Tryz.prog.cellsOf f0.type = 2) (c1 : Tryz.prog.cellsOf f1.type = 2) (hC : Tryz.prog.cellsOf t = 4) : Cells4 Tryz.prog enc t := by
  intro W n cs y h
  obtain ⟨y0, y1, m, rfl, hl, k0, k1⟩ := trod_struct2 ht h
  rw [hC] at hl
  match cs, hl with
  | [v0, v1, v2, v3], _ =>
    simp only [h0, h1, c0, c1, List.drop_zero, List.take_succ_cons, List.take_zero, List.drop_succ_cons] at k0 k1
    obtain ⟨s, ao, l, cap, xs, he, hwd, hr⟩ := e0 W _ _ _ k0
    obtain ⟨s', ao', l', cap', xs', he', hwd', hr'⟩ := e1 W _ _ _ k1
    simp only [List.cons.injEq, and_true] at he he'
    obtain ⟨rfl, rfl⟩ := he
    obtain ⟨rfl, rfl⟩ := he'
    refine ⟨s, ao, l, cap, xs, s', ao', l', cap', xs', rfl, hwd, hwd', fun W' sp hbel hsp => ?_⟩
    obtain ⟨n0, t0⟩ := hr W' sp hbel (fun q hq => hsp q (by simp [hq]))
    obtain ⟨n1, t1⟩ := hr' W' sp hbel (fun q hq => hsp q (by simp [hq]))
    refine ⟨max n0 n1 + 1, trod_struct2_mk (n := max n0 n1) ht (by rw [hC]; rfl) ?_ ?_⟩
    · simp only [h0, c0, List.drop_zero, List.take_succ_cons, List.take_zero]
      exact DataW.trod_le (Nat.le_max_left n0 n1) t0
    · simp only [h1, c1, List.take_succ_cons, List.take_zero, List.drop_succ_cons, List.drop_zero]
      exact DataW.trod_le (Nat.le_max_right n0 n1) t1
theorem cells4_RawQ : Cells4 Tryz.prog enc 26 := cells4_of Tryz.underlying26 cells2_Raw cells2_Raw rfl rfl (by kernel_rfl) (by kernel_rfl) (by kernel_rfl)
theorem four_open {t : TypeId} (hC : Cells4 Tryz.prog enc t) {f0 f1 : Field} (ht : Tryz.prog.underlying t = some (.struct #[f0, f1])) {W : World} {b0 : Nat} {r : Reach} {v : Value} {d : DataW H} {p : List MemPlace} (hv : Value.okWide Tryz.prog W r b0 t v) (h : DataW.Trod enc Tryz.prog W 0 (fun _ => true) true t v d p) :
    ∃ s ao n cap xs s' ao' n' cap' xs', v = .agg #[.bool s, .slice ao n cap, .bool s', .slice ao' n' cap'] ∧ Wd W ao n cap xs ∧ Wd W ao' n' cap' xs' ∧ Reads enc W t v d p := by
  obtain ⟨cs, rfl, hsz⟩ := okWide_struct ht hv
  obtain ⟨n, hn⟩ := h
  obtain ⟨s, ao, l, cap, xs, s', ao', l', cap', xs', he, hw, hw', hr⟩ := hC W n _ _ hn
  obtain ⟨cl⟩ := cs
  have he2 : cl = [.bool s, .slice ao l cap, .bool s', .slice ao' l' cap'] := by simpa [Value.cells] using he
  subst he2
  exact ⟨s, ao, l, cap, xs, s', ao', l', cap', xs', rfl, hw, hw', fun W' sp hb hsp => hr W' sp hb hsp⟩
theorem rawq_open {W : World} {b0 : Nat} {r : Reach} {v : Value} {d : DataW H} {p : List MemPlace} (hv : Value.okWide Tryz.prog W r b0 26 v) (h : DataW.Trod enc Tryz.prog W 0 (fun _ => true) true 26 v d p) :
    ∃ s ao n cap xs s' ao' n' cap' xs', v = .agg #[.bool s, .slice ao n cap, .bool s', .slice ao' n' cap'] ∧ Wd W ao n cap xs ∧ Wd W ao' n' cap' xs' ∧ Reads enc W 26 v d p := four_open cells4_RawQ Tryz.underlying26 hv h
end
end Go.Proofs.YtcgdkfadcglekaaGreatDoor
