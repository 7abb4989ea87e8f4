/-
  Package notebook: isName.
-/
import Derived.Test.YtenhciieboegbaaGreatDoorNix
import Derived.Test.YtenhciieboegbaaGreatDoorNwd
import Derived.Laws.IdiomStrings
namespace Go.Proofs.YtenhciieboegbaaGreatDoor
open Go Go.RowKit Go.Maps
def wVal : List UInt8 := [118, 97, 108, 117, 101]
def resv : List (List UInt8) := [wVal, opW 9, opW 10, opW 7, opW 8, opW 12, opW 13]
def wordB (s : List UInt8) : Bool := decide (s.length ≤ 12) && (match s with | [] => false | c :: _ => cLet c) && s.all cWrd
def nameB (s : List UInt8) : Bool := !(resv.contains s) && wordB s
/-- maps.Values of the words, collected: the nine words in some order. -/
def VlsC : Prop := ∀ (w : World) (b : Nat), w.ownsMap (H := Unit) Tryz.prog 3 (plainElem Tryz.prog 9) b 9 wD →
  Calls Tryz.prog 55 #[.map (some b)] w (fun e w' => Ext w w' ∧ ∃ x, e = .returned x ∧
    Calls Tryz.prog 54 #[x] w' (fun e2 w2 => Ext w' w2 ∧ ∃ v, e2 = .returned v ∧ ∃ vs : Sc, IsSr vs v w2 ∧ vs.length ≤ 9 ∧ ∀ s, s ∈ vs ↔ s ∈ wKeys.map opW))
theorem name_no {s : List UInt8} (h : s ∈ wKeys.map opW ∨ s = wVal) : nameB s = false := by
  simp only [wKeys, List.map_cons, List.map_nil, List.mem_cons, List.not_mem_nil, or_false] at h
  rcases h with (rfl | rfl | rfl | rfl | rfl | rfl | rfl | rfl | rfl) | rfl <;> decide
theorem name_yes {s : List UInt8} (h1 : s ∉ wKeys.map opW) (h2 : s ≠ wVal) : nameB s = wordB s := by
  have : resv.contains s = false := by
    simp only [wKeys, List.map_cons, List.map_nil, List.mem_cons, List.not_mem_nil, or_false, not_or] at h1
    simp only [resv, List.contains_eq_mem, List.mem_cons, List.not_mem_nil, or_false, decide_eq_false_iff_not, not_or]
    exact ⟨h2, h1.2.1, h1.1, h1.2.2.2.2.2.1, h1.2.2.2.2.1, h1.2.2.2.1, h1.2.2.1⟩
  rw [nameB, this]; rfl
/-- '[]byte(s)'. -/
theorem conv_bytes (l : List UInt8) : ∃ (G : World → Nat) (X : World → World), (∀ W, (convert 9 52 (.string ⟨l.toArray⟩)).run Tryz.prog W = .ok (.slice (some ⟨W.heap.size, 0, none⟩) l.length (G W)) (X W)) ∧
    ∀ W, Ext W (X W) ∧ IsBr l (.slice (some ⟨W.heap.size, 0, none⟩) l.length (G W)) (X W) := by
  refine ⟨_, _, fun W => run_bytes_of_string W 9 52 5 ⟨l.toArray⟩ (by kernel_rfl) (by kernel_rfl) (by kernel_rfl), fun W => ⟨?_, _, _, rfl, fun _ => ⟨_, 0, rfl, fun j x hj => ?_⟩⟩⟩
  · exact ((Ext.refl W).drew).alloc _
  · rw [Nat.zero_add]
    have hl : j < l.length := (List.getElem?_eq_some_iff.1 hj).1
    have hx : l[j] = x := (List.getElem?_eq_some_iff.1 hj).2
    obtain ⟨cap, hcap⟩ : ∃ n, grownCap W (⟨l.toArray⟩ : ByteArray).size 0 5 = n := ⟨_, rfl⟩
    rw [hcap]
    simp only [World.cell?]
    have h1 : ∀ o : Obj, (W.drew.alloc o).heap[W.heap.size]? = some o := fun o => by show (W.heap.push o)[W.heap.size]? = some o; simp
    rw [h1]
    have h2 : (bytesRow ⟨l.toArray⟩ cap)[j]? = some (bV x) := by
      rw [bytesRow, Array.getElem?_append_left (by simpa using hl)]
      simp [hj, bV]
    simpa using h2
set_option maxRecDepth 100000 in
set_option maxHeartbeats 4000000 in
theorem isName_f (HV : VlsC) (s : List UInt8) (w : World) (hl : s.length ≤ 4611686018427387904) : Calls Tryz.prog 32 #[encS s] w (RVal w (.bool (nameB s))) := by
  by_cases hv : s = wVal
  · subst hv
    rw [name_no (.inr rfl), encS]
    go_enter Tryz.func32, Tryz.ntmps32
    go_wp2
    all_goals (go_ret; exact ⟨rfl, Ext.refl _⟩)
  have hv1 : (s == [118, 97, 108, 117, 101]) = false := by simpa [wVal] using hv
  by_cases hw : s ∈ wKeys.map opW
  · rw [name_no (.inl hw), encS]
    have HW := hid hw
    clear hw hl hv
    go_enter Tryz.func32, Tryz.ntmps32
    go_wp2_with (first
        | (go_at_call 56; refine Calls.mono (words_f _) ?_; rintro e w1 ⟨b, rfl, e1, -, o1⟩)
        | (go_at_call 55; refine Calls.mono (HV _ _ o1) ?_; rintro e w2 ⟨e2, x, rfl, hC⟩)
        | (go_at_call 54; refine Calls.mono hC ?_; rintro e w3 ⟨e3, v, rfl, vs, hvs, hvl, hm⟩; have HM := hid hm; clear hm hC)
        | (go_at_call 53; refine Calls.mono (contains_f hvs s (by omega)) ?_; rintro e w4 ⟨rfl, rfl⟩; rw [show vs.contains s = true from by simpa using (HM.out s).2 HW.out]; clear hvs hvl)
        | (go_at_call 57; refine Calls.mono (isLetter_f c _) ?_; rintro e w4 ⟨rfl, rfl⟩; rw [HC.out])
        | (go_at_call 58; go_must (refine Calls.mono (containsB_f (l := c :: t) ?_ (by omega)) ?_)))
    all_goals (go_ret; exact ⟨rfl, (e1.trans e2).trans e3⟩)
  · rw [name_yes hw hv, encS]
    have HW := hid hw
    clear hw hv
    cases s with
    | nil =>
      go_enter Tryz.func32, Tryz.ntmps32
      go_wp2_with (first
        | (go_at_call 56; refine Calls.mono (words_f _) ?_; rintro e w1 ⟨b, rfl, e1, -, o1⟩)
        | (go_at_call 55; refine Calls.mono (HV _ _ o1) ?_; rintro e w2 ⟨e2, x, rfl, hC⟩)
        | (go_at_call 54; refine Calls.mono hC ?_; rintro e w3 ⟨e3, v, rfl, vs, hvs, hvl, hm⟩; have HM := hid hm; clear hm hC)
        | (go_at_call 53; refine Calls.mono (contains_f hvs [] (by omega)) ?_; rintro e w4 ⟨rfl, rfl⟩; rw [show vs.contains [] = false from by simpa using fun h => HW.out ((HM.out []).1 h)]; clear hvs hvl)
        | (go_at_call 57; refine Calls.mono (isLetter_f c _) ?_; rintro e w4 ⟨rfl, rfl⟩; rw [HC.out])
        | (go_at_call 58; go_must (refine Calls.mono (containsB_f (l := c :: t) ?_ (by omega)) ?_)))
      all_goals (go_ret; exact ⟨rfl, (e1.trans e2).trans e3⟩)
    | cons c t =>
      by_cases hlen : t.length + 1 ≤ 12
      · have hle : (t.length : Int) + 1 ≤ 12 := by omega
        obtain ⟨r, hr⟩ : ∃ r, cLet c = r := ⟨_, rfl⟩
        have HC := hid hr
        have HW2 : wordB (c :: t) = (r && (c :: t).all cWrd) := by rw [← hr]; simp [wordB, hlen]
        rw [HW2]
        clear HW2 hr
        cases r with
        | false =>
          go_enter Tryz.func32, Tryz.ntmps32
          go_wp2_with (first
        | (go_at_call 56; refine Calls.mono (words_f _) ?_; rintro e w1 ⟨b, rfl, e1, -, o1⟩)
        | (go_at_call 55; refine Calls.mono (HV _ _ o1) ?_; rintro e w2 ⟨e2, x, rfl, hC⟩)
        | (go_at_call 54; refine Calls.mono hC ?_; rintro e w3 ⟨e3, v, rfl, vs, hvs, hvl, hm⟩; have HM := hid hm; clear hm hC)
        | (go_at_call 53; refine Calls.mono (contains_f hvs (c :: t) (by omega)) ?_; rintro e w4 ⟨rfl, rfl⟩; rw [show vs.contains (c :: t) = false from by simpa using fun h => HW.out ((HM.out (c :: t)).1 h)]; clear hvs hvl)
        | (go_at_call 57; refine Calls.mono (isLetter_f c _) ?_; rintro e w4 ⟨rfl, rfl⟩; rw [HC.out])
        | (go_at_call 58; go_must (refine Calls.mono (containsB_f (HX.out _).2 (by simpa using hl)) ?_; rintro e w4 ⟨rfl, rfl⟩; rw [HQ.out])))
          go_ret
          exact ⟨rfl, (e1.trans e2).trans e3⟩
        | true =>
          obtain ⟨G, X, hcv, hX⟩ := conv_bytes (c :: t)
          have HX := hid hX
          clear hX
          obtain ⟨q, hq⟩ : ∃ q, (c :: t).all cWrd = q := ⟨_, rfl⟩
          rw [hq]
          have HQ := hid hq
          clear hq
          go_enter Tryz.func32, Tryz.ntmps32
          go_wp2_with (first
        | (go_at_call 56; refine Calls.mono (words_f _) ?_; rintro e w1 ⟨b, rfl, e1, -, o1⟩)
        | (go_at_call 55; refine Calls.mono (HV _ _ o1) ?_; rintro e w2 ⟨e2, x, rfl, hC⟩)
        | (go_at_call 54; refine Calls.mono hC ?_; rintro e w3 ⟨e3, v, rfl, vs, hvs, hvl, hm⟩; have HM := hid hm; clear hm hC)
        | (go_at_call 53; refine Calls.mono (contains_f hvs (c :: t) (by omega)) ?_; rintro e w4 ⟨rfl, rfl⟩; rw [show vs.contains (c :: t) = false from by simpa using fun h => HW.out ((HM.out (c :: t)).1 h)]; clear hvs hvl)
        | (go_at_call 57; refine Calls.mono (isLetter_f c _) ?_; rintro e w4 ⟨rfl, rfl⟩; rw [HC.out])
        | (go_at_call 58; go_must (refine Calls.mono (containsB_f (HX.out _).2 (by simpa using hl)) ?_; rintro e w4 ⟨rfl, rfl⟩; rw [HQ.out])))
          go_ret
          exact ⟨by cases q <;> rfl, ((e1.trans e2).trans e3).trans (HX.out _).1⟩
      · have hle : 12 < (t.length : Int) + 1 := by omega
        have HW2 : wordB (c :: t) = false := by simp [wordB, hlen]
        rw [HW2]
        clear HW2
        go_enter Tryz.func32, Tryz.ntmps32
        go_wp2_with (first
        | (go_at_call 56; refine Calls.mono (words_f _) ?_; rintro e w1 ⟨b, rfl, e1, -, o1⟩)
        | (go_at_call 55; refine Calls.mono (HV _ _ o1) ?_; rintro e w2 ⟨e2, x, rfl, hC⟩)
        | (go_at_call 54; refine Calls.mono hC ?_; rintro e w3 ⟨e3, v, rfl, vs, hvs, hvl, hm⟩; have HM := hid hm; clear hm hC)
        | (go_at_call 53; refine Calls.mono (contains_f hvs (c :: t) (by omega)) ?_; rintro e w4 ⟨rfl, rfl⟩; rw [show vs.contains (c :: t) = false from by simpa using fun h => HW.out ((HM.out (c :: t)).1 h)]; clear hvs hvl)
        | (go_at_call 57; refine Calls.mono (isLetter_f c _) ?_; rintro e w4 ⟨rfl, rfl⟩; rw [HC.out])
        | (go_at_call 58; go_must (refine Calls.mono (containsB_f (HX.out _).2 (by simpa using hl)) ?_; rintro e w4 ⟨rfl, rfl⟩; rw [HQ.out])))
        go_ret
        exact ⟨rfl, (e1.trans e2).trans e3⟩
end Go.Proofs.YtenhciieboegbaaGreatDoor
