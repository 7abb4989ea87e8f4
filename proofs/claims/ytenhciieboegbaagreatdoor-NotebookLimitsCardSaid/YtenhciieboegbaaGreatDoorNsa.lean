/-
  When lists of cells, and of texts, are the same. (Printed by wip/gen/nsa.py.)
-/
import Derived.Test.YtenhciieboegbaaGreatDoorNsn
namespace Go.Proofs.YtenhciieboegbaaGreatDoor
open Go Go.RowKit
/-- Lists of cells that are the same. -/
def eqCs : List Cl → List Cl → Bool
  | a :: s, b :: t => (decide (a.nm = b.nm) && eqN a.e b.e) && eqCs s t
  | _, _ => true
def sameB (s t : List Cl) : Bool := decide (s.length = t.length) && eqCs s t
theorem sameB_iff : ∀ s t : List Cl, sameB s t = true ↔ s = t
  | [], t => by cases t <;> simp [sameB, eqCs]
  | a :: s, [] => by simp [sameB]
  | a :: s, b :: t => by
    have ih := sameB_iff s t
    obtain ⟨n, e⟩ := a
    obtain ⟨n', e'⟩ := b
    simp only [sameB, eqCs, Bool.and_eq_true, decide_eq_true_eq, List.length_cons, Nat.add_right_cancel_iff, List.cons.injEq, Cl.mk.injEq, eqN_iff] at ih ⊢
    constructor
    · rintro ⟨h1, h2, h3⟩; exact ⟨h2, ih.1 ⟨h1, h3⟩⟩
    · rintro ⟨h1, h2⟩; exact ⟨(ih.2 h2).1, h1, (ih.2 h2).2⟩
theorem eqCs_take : ∀ (s t : List Cl) (i : Nat) (a b : Cl), s[i]? = some a → t[i]? = some b → eqCs (s.take i) (t.take i) = true → a.nm = b.nm → eqN a.e b.e = true → eqCs (s.take (i + 1)) (t.take (i + 1)) = true
  | x :: s, y :: t, 0, a, b, h1, h2, _, h4, h5 => by
    obtain rfl : x = a := by simpa using h1
    obtain rfl : y = b := by simpa using h2
    simp [eqCs, h4, h5]
  | x :: s, y :: t, i + 1, a, b, h1, h2, h3, h4, h5 => by
    simp only [List.take_succ_cons, eqCs, Bool.and_eq_true] at h3 ⊢
    exact ⟨h3.1, by simpa using eqCs_take s t i a b (by simpa using h1) (by simpa using h2) h3.2 h4 h5⟩
  | [], _, _, _, _, h1, _, _, _, _ => by simp at h1
  | _ :: _, [], _, _, _, _, h2, _, _, _ => by simp at h2
theorem eqCs_no : ∀ (s t : List Cl) (i : Nat) (a b : Cl), s[i]? = some a → t[i]? = some b → (a.nm = b.nm → eqN a.e b.e = false) → eqCs s t = false
  | x :: s, y :: t, 0, a, b, h1, h2, h4 => by
    obtain rfl : x = a := by simpa using h1
    obtain rfl : y = b := by simpa using h2
    rw [eqCs]
    by_cases h : x.nm = y.nm
    · rw [h4 h]; simp
    · simp [h]
  | x :: s, y :: t, i + 1, a, b, h1, h2, h4 => by
    rw [eqCs, eqCs_no s t i a b (by simpa using h1) (by simpa using h2) h4, Bool.and_false]
  | [], _, _, _, _, h1, _, _ => by simp at h1
  | _ :: _, [], _, _, _, _, h2, _ => by simp at h2
section
set_option maxRecDepth 100000
set_option maxHeartbeats 16000000
theorem Same42_f {l l' : List Cl} {u v : Value} {w : World} (hu : IsCs 0 l u w) (hv : IsCs 0 l' v w) (hl : l.length ≤ 1000000000) : Calls Tryz.prog 21 #[u, v] w (Ret w (IsV (.bool (sameB l l')))) := by
  obtain ⟨n, hn⟩ : ∃ n, l.length = n := ⟨_, rfl⟩
  obtain ⟨m, hm⟩ : ∃ n, l'.length = n := ⟨_, rfl⟩
  obtain ⟨ao, cp, h1, -⟩ := id hu
  obtain ⟨ao', cp', h2, -⟩ := id hv
  rw [hn] at h1
  rw [hm] at h2
  have HU := hid hu
  have HV := hid hv
  have HN := hid (And.intro (And.intro hn hm) hl)
  by_cases he : n = m
  · subst he
    subst h1 h2
    clear hu hv hn hm hl
    go_enter Tryz.func21, Tryz.ntmps21
    go_wp2_with fail
    go_loopg [5] n (fun gk v5 wr => ∃ i : Nat, v5 = .int .i64 ((i : Nat) : Int) ∧ i + gk = n ∧ Hid (Ext w wr ∧ eqCs (l.take i) (l'.take i) = true))
    case atStart => exact ⟨0, rfl, by omega, hid ⟨Ext.refl _, by simp [eqCs]⟩⟩
    case round =>
      obtain ⟨i, rfl, hg, S⟩ := hrel
      have HRES := hid (show sameB l l' = eqCs l l' by rw [sameB, HN.out.1.1, HN.out.1.2]; simp)
      by_cases hi2 : i < n
      · have hil : (i : Int) < (n : Int) := by omega
        have hiw : IntKind.i64.wrap ((i : Int) + 1) = ((i + 1 : Nat) : Int) := by have := HN.out; simp only [IntKind.wrap_i64]; omega
        obtain ⟨y, hy⟩ : ∃ y, l[i]? = some y := ⟨_, List.getElem?_eq_getElem (by rw [HN.out.1.1]; exact hi2)⟩
        obtain ⟨z, hz⟩ : ∃ z, l'[i]? = some z := ⟨_, List.getElem?_eq_getElem (by rw [HN.out.1.2]; exact hi2)⟩
        obtain ⟨g, o, c1, us, e1, -, hl8, hcs, hy2⟩ := HU.out.get hy
        obtain ⟨g', o', c2, vs, e2, -, hl9, hds, hz2⟩ := HV.out.get hz
        obtain ⟨rfl, -, rfl⟩ : ao = some ⟨g, o, none⟩ ∧ n = l.length ∧ cp = c1 := by injection e1 with q1 q2 q3; exact ⟨q1, q2, q3⟩
        obtain ⟨rfl, -, rfl⟩ : ao' = some ⟨g', o', none⟩ ∧ n = l'.length ∧ cp' = c2 := by injection e2 with q1 q2 q3; exact ⟨q1, q2, q3⟩
        obtain ⟨sb, hsb⟩ : ∃ y', (⟨y.nm.toArray⟩ : ByteArray) = y' := ⟨_, rfl⟩
        obtain ⟨sb', hsb'⟩ : ∃ y', (⟨z.nm.toArray⟩ : ByteArray) = y' := ⟨_, rfl⟩
        have HC0 := hid (And.intro (show World.cell? w ⟨g, o + 9 * i, none⟩ = some (.string sb) by rw [← hsb]; exact hcs 0 _ rfl) (show World.cell? w ⟨g', o' + 9 * i, none⟩ = some (.string sb') by rw [← hsb']; exact hds 0 _ rfl))
        have HSB := hid (And.intro hsb hsb')
        have HG := hid (And.intro hg hi2)
        have HC := hid (And.intro (And.intro hl8 hcs) (And.intro hl9 hds))
        have HY := hid (And.intro hy2 hz2)
        have HI := hid (And.intro hy hz)
        have HCC := hid (fun w' => SameNode_f y.e z.e 0 0 us vs w')
        obtain ⟨q, hq⟩ : ∃ q, eqN y.e z.e = q := ⟨_, rfl⟩
        rw [hq] at HCC
        have HQ := hid hq
        obtain ⟨r, hr⟩ : ∃ r : Bool, (!decide (y.nm = z.nm)) = r := ⟨_, rfl⟩
        have HR := hid hr
        have hbn : ∀ w', Sem.run Tryz.prog (do eqGuard .neq 9 (.tmp 21) (.tmp 26) (.string sb) (.string sb'); binOp .neq 9 (.string sb) (.string sb')) w' = .ok (.bool r) w' := fun w' => by
          have h9 := seq_eq y.nm z.nm
          rw [hsb, hsb'] at h9
          rw [← hr, ← h9]
          go_simp
        have HBN := hid hbn
        clear hg hi2 e1 e2 hl8 hcs hy2 hy hl9 hds hz2 hz hq hsb hsb' hr hbn
        go_upto_region 6 with (fail)
        cases r with
        | true =>
          refine rg 25 [some 17, some 18, some 19, some 20, some 21, some 22, some 23, some 24, some 25, some 26, some 27, some 28, some 29, some 30, some 31, some 32, some 33, some 34, some 35, some 36, some 37, some 38, some 39, some 40, some 41] [IsV (.slice (some ⟨g, o, none⟩) n cp), IsV (.int .i64 ((i : Nat) : Int)), IsV (.pointer (some ⟨g, o + 9 * i, none⟩)), IsV (.pointer (some ⟨g, o + 9 * i, none⟩)), IsV (.string sb), IsV (.slice (some ⟨g', o', none⟩) n cp'), IsV (.int .i64 ((i : Nat) : Int)), IsV (.pointer (some ⟨g', o' + 9 * i, none⟩)), IsV (.pointer (some ⟨g', o' + 9 * i, none⟩)), IsV (.string sb'), IsV (.bool true), IsV (.bool true), IsV undef, IsV undef, IsV undef, IsV undef, IsV undef, IsV undef, IsV undef, IsV undef, IsV undef, IsV undef, IsV undef, IsV undef, IsV (.bool true)] [] 0 ?_ ?_ (hst := by repeat' (first | exact trivial | exact IsV.stb _ | apply And.intro))
          · refine Rc (mv (Od.lit 0)) ?_
            refine Rc (mv (Od.lit (x := .int .i64 ((i : Nat) : Int)) 5)) ?_
            refine Rc (ixq (ix_Cl g o cp n i HG.out.2) (Od.lc 0 17) (Od.lc (Φ := IsV (.int .i64 ((i : Nat) : Int))) 1 18)) ?_
            refine Rc (fa (fa_Cl0 g (o + 9 * i)) (Od.lc 2 19)) ?_
            refine Rc (lv (Φ := IsV (.string sb)) _ (fun w' e => ld_str w' _ _ ((S.out.1.trans e).cell HC0.out.1)) (Od.lc 3 20) (fun _ _ => rfl)) ?_
            refine Rc (mv (Od.lit 1)) ?_
            refine Rc (mv (Od.lit (x := .int .i64 ((i : Nat) : Int)) 5)) ?_
            refine Rc (ixq (ix_Cl g' o' cp' n i HG.out.2) (Od.lc 5 22) (Od.lc (Φ := IsV (.int .i64 ((i : Nat) : Int))) 6 23)) ?_
            refine Rc (fa (fa_Cl0 g' (o' + 9 * i)) (Od.lc 7 24)) ?_
            refine Rc (lv (Φ := IsV (.string sb')) _ (fun w' e => ld_str w' _ _ ((S.out.1.trans e).cell HC0.out.2)) (Od.lc 8 25) (fun _ _ => rfl)) ?_
            refine Rc (bn (r := .bool true) (Od.lc (Φ := IsV (.string sb)) 4 21) (Od.lc (Φ := IsV (.string sb')) 9 26) (hr := HBN.out)) ?_
            refine Rc (mv (Od.lc (Φ := IsV (.bool true)) 10 27)) ?_
            refine RcN 11 28 true ?_
            refine RcN 11 28 true ?_
            refine RcN 11 28 true ?_
            refine RcN 11 28 true ?_
            refine RcN 11 28 true ?_
            refine RcN 11 28 true ?_
            refine RcN 11 28 true ?_
            refine RcN 11 28 true ?_
            refine RcN 11 28 true ?_
            refine RcN 11 28 true ?_
            refine RcN 11 28 true ?_
            refine RcN 11 28 true ?_
            refine Rc (pk (b := true) (Od.lc 11 28) (Od.con (x := .bool true))) ?_
            exact RgAll.nil
          intro u X4 e4 hΦ _
          simp only [layL, Act.put, List.setIfInBounds_toArray, List.set_cons_zero, List.set_cons_succ, Nat.reduceAdd]
          rw [show u 24 = (.bool true) from hΦ 24 (by decide)]
          have E4 := hid (S.out.1.trans e4)
          have S2 := hid S.out.2
          clear hΦ S e4
          refine wpAny_done (by kernel_rfl) ?_ _
          have HT := hid (eqCs_no l l' i y z HI.out.1 HI.out.2 (fun e => by have := HR.out; rw [decide_eq_true e] at this; cases this))
          go_wp2_with fail
          go_ret
          exact ⟨_, rfl, E4.out, by rw [HRES.out, HT.out]; rfl⟩
        | false =>
          refine rg 25 [some 17, some 18, some 19, some 20, some 21, some 22, some 23, some 24, some 25, some 26, some 27, some 28, some 29, some 30, some 31, some 32, some 33, some 34, some 35, some 36, some 37, some 38, some 39, some 40, some 41] [IsV (.slice (some ⟨g, o, none⟩) n cp), IsV (.int .i64 ((i : Nat) : Int)), IsV (.pointer (some ⟨g, o + 9 * i, none⟩)), IsV (.pointer (some ⟨g, o + 9 * i, none⟩)), IsV (.string sb), IsV (.slice (some ⟨g', o', none⟩) n cp'), IsV (.int .i64 ((i : Nat) : Int)), IsV (.pointer (some ⟨g', o' + 9 * i, none⟩)), IsV (.pointer (some ⟨g', o' + 9 * i, none⟩)), IsV (.string sb'), IsV (.bool false), IsV (.bool false), IsV (.slice (some ⟨g, o, none⟩) n cp), IsV (.int .i64 ((i : Nat) : Int)), IsV (.pointer (some ⟨g, o + 9 * i, none⟩)), IsV (.pointer (some ⟨g, o + 9 * i + 1, none⟩)), IsV (.agg us.toArray), IsV (.slice (some ⟨g', o', none⟩) n cp'), IsV (.int .i64 ((i : Nat) : Int)), IsV (.pointer (some ⟨g', o' + 9 * i, none⟩)), IsV (.pointer (some ⟨g', o' + 9 * i + 1, none⟩)), IsV (.agg vs.toArray), IsV (.bool q), IsV (.bool (!q)), IsV (.bool (!q))] [] 0 ?_ ?_ (hst := by repeat' (first | exact trivial | exact IsV.stb _ | apply And.intro))
          · refine Rc (mv (Od.lit 0)) ?_
            refine Rc (mv (Od.lit (x := .int .i64 ((i : Nat) : Int)) 5)) ?_
            refine Rc (ixq (ix_Cl g o cp n i HG.out.2) (Od.lc 0 17) (Od.lc (Φ := IsV (.int .i64 ((i : Nat) : Int))) 1 18)) ?_
            refine Rc (fa (fa_Cl0 g (o + 9 * i)) (Od.lc 2 19)) ?_
            refine Rc (lv (Φ := IsV (.string sb)) _ (fun w' e => ld_str w' _ _ ((S.out.1.trans e).cell HC0.out.1)) (Od.lc 3 20) (fun _ _ => rfl)) ?_
            refine Rc (mv (Od.lit 1)) ?_
            refine Rc (mv (Od.lit (x := .int .i64 ((i : Nat) : Int)) 5)) ?_
            refine Rc (ixq (ix_Cl g' o' cp' n i HG.out.2) (Od.lc 5 22) (Od.lc (Φ := IsV (.int .i64 ((i : Nat) : Int))) 6 23)) ?_
            refine Rc (fa (fa_Cl0 g' (o' + 9 * i)) (Od.lc 7 24)) ?_
            refine Rc (lv (Φ := IsV (.string sb')) _ (fun w' e => ld_str w' _ _ ((S.out.1.trans e).cell HC0.out.2)) (Od.lc 8 25) (fun _ _ => rfl)) ?_
            refine Rc (bn (r := .bool false) (Od.lc (Φ := IsV (.string sb)) 4 21) (Od.lc (Φ := IsV (.string sb')) 9 26) (hr := HBN.out)) ?_
            refine Rc (mv (Od.lc (Φ := IsV (.bool false)) 10 27)) ?_
            refine RcG 11 28 false (mv (Od.lit 0)) ?_
            refine RcG 11 28 false (mv (Od.lit (x := .int .i64 ((i : Nat) : Int)) 5)) ?_
            refine RcG 11 28 false (ixq (ix_Cl g o cp n i HG.out.2) (Od.lc 12 29) (Od.lc (Φ := IsV (.int .i64 ((i : Nat) : Int))) 13 30)) ?_
            refine RcG 11 28 false (fa (fa_Cl1 g (o + 9 * i)) (Od.lc 14 31)) ?_
            refine RcG 11 28 false (lv (Φ := IsV (.agg us.toArray)) _ (fun w' e => ldM (by kernel_rfl) (by kernel_rfl) HC.out.1.1 (fun j v hj => (S.out.1.trans e).cell (by have := HC.out.1.2 (j + 1) v (by simpa using hj); rwa [show o + 9 * i + 1 + j = o + 9 * i + (j + 1) by omega]))) (Od.lc 15 32) (fun _ _ => rfl)) ?_
            refine RcG 11 28 false (mv (Od.lit 1)) ?_
            refine RcG 11 28 false (mv (Od.lit (x := .int .i64 ((i : Nat) : Int)) 5)) ?_
            refine RcG 11 28 false (ixq (ix_Cl g' o' cp' n i HG.out.2) (Od.lc 17 34) (Od.lc (Φ := IsV (.int .i64 ((i : Nat) : Int))) 18 35)) ?_
            refine RcG 11 28 false (fa (fa_Cl1 g' (o' + 9 * i)) (Od.lc 19 36)) ?_
            refine RcG 11 28 false (lv (Φ := IsV (.agg vs.toArray)) _ (fun w' e => ldM (by kernel_rfl) (by kernel_rfl) HC.out.2.1 (fun j v hj => (S.out.1.trans e).cell (by have := HC.out.2.2 (j + 1) v (by simpa using hj); rwa [show o' + 9 * i + 1 + j = o' + 9 * i + (j + 1) by omega]))) (Od.lc 20 37) (fun _ _ => rfl)) ?_
            refine RcG 11 28 false (cl2 (Φ := IsV (.agg us.toArray)) (Ψ := IsV (.agg vs.toArray)) (Χ := IsV (.bool q)) (en Tryz.func25) (Od.lc 16 33) (Od.lc 21 38) (fun x0 y0 w' hE d0 d1 => by { obtain rfl : x0 = .agg us.toArray := d0; obtain rfl : y0 = .agg vs.toArray := d1; exact HCC.out w' (NdC.low (Nat.zero_le _) _ _ (HY.out.1.ext (S.out.1.trans hE))) (NdC.low (Nat.zero_le _) _ _ (HY.out.2.ext (S.out.1.trans hE))) })) ?_
            refine RcG 11 28 false (un (p := .bool q) (r := .bool (!q)) (Od.lc 22 39) rfl (fun w => by go_simp)) ?_
            refine Rc (pk (b := false) (Od.lc 11 28) (Od.lc (Φ := IsV (.bool (!q))) 23 40)) ?_
            exact RgAll.nil
          intro u X4 e4 hΦ _
          simp only [layL, Act.put, List.setIfInBounds_toArray, List.set_cons_zero, List.set_cons_succ, Nat.reduceAdd]
          rw [show u 24 = (.bool (!q)) from hΦ 24 (by decide)]
          have E4 := hid (S.out.1.trans e4)
          have S2 := hid S.out.2
          clear hΦ S e4
          refine wpAny_done (by kernel_rfl) ?_ _
          have HNE := hid (show y.nm = z.nm by have := HR.out; simpa using this)
          cases q with
          | true =>
            have HT := hid (eqCs_take l l' i y z HI.out.1 HI.out.2 S2.out HNE.out HQ.out)
            go_wp2_with fail
            go_roundg (gk - 1)
            case measure => have := HG.out; omega
            case rel => exact ⟨i + 1, rfl, by have := HG.out; omega, hid ⟨E4.out, HT.out⟩⟩
          | false =>
            have HT := hid (eqCs_no l l' i y z HI.out.1 HI.out.2 (fun _ => HQ.out))
            go_wp2_with fail
            go_ret
            exact ⟨_, rfl, E4.out, by rw [HRES.out, HT.out]; rfl⟩
      · have hil : ¬ ((i : Int) < (n : Int)) := by omega
        have HT := hid (show eqCs l l' = true by have := S.out.2; rwa [List.take_of_length_le (by rw [HN.out.1.1]; omega), List.take_of_length_le (by rw [HN.out.1.2]; omega)] at this)
        have E4 := hid S.out.1
        clear S hg hi2
        go_wp2_with fail
        go_ret
        exact ⟨_, rfl, E4.out, by rw [HRES.out, HT.out]; rfl⟩
  · have hq : (((n : Nat) : Int) != ((m : Nat) : Int)) = true := by simp; omega
    have HR := hid (show sameB l l' = false by rw [sameB, hn, hm]; simp [he])
    subst h1 h2
    clear hu hv hn hm hl he
    go_enter Tryz.func21, Tryz.ntmps21
    go_wp2_with fail
    go_ret
    exact ⟨_, rfl, Ext.refl _, by rw [HR.out]; rfl⟩
end
end Go.Proofs.YtenhciieboegbaaGreatDoor
