/-
 The rule for a region that makes boxes and fills them, where the stores may come early: facts of the values, and of each new box what was stored there. No condition on the program.
-/
import Derived.Test.YtkeikfekkdplgaaGreatDoorSto
namespace Go.Proofs.YtkeikfekkdplgaaGreatDoor
open Go Go.RowKit

/-- Boxes keep their shape. -/
def Shp (w w' : World) : Prop := ∀ g i, (∃ s a n c, Bo w g i s a n c) → ∃ s a n c, Bo w' g i s a n c
theorem Shp.of {w w' : World} (e : Ext w w') : Shp w w' := fun _ _ ⟨s, a, n, c, h⟩ => ⟨s, a, n, c, h.ext e⟩
/-- A fact that stays while boxes are filled. -/
def Gst (Φ : Value → World → Prop) : Prop := ∀ x w w', Gr w w' → Shp w w' → Φ x w → Φ x w'
theorem Gst.of {Φ : Value → World → Prop} (h : GStb Φ) : Gst Φ := fun _ _ _ g _ k => h _ _ _ g k
theorem Gst.v (u : Value) : Gst (IsV u) := fun _ _ _ _ _ k => k
theorem Gst.t2 {Φ Ψ : Value → World → Prop} (h : Gst Φ) (k : Gst Ψ) : Gst (IsT2 Φ Ψ) := fun _ _ _ g s ⟨a, b, h1, h2, h3⟩ => ⟨a, b, h1, h _ _ _ g s h2, k _ _ _ g s h3⟩
theorem Gst.t3 {Φ Ψ Χ : Value → World → Prop} (h : Gst Φ) (k : Gst Ψ) (l : Gst Χ) : Gst (IsT3 Φ Ψ Χ) := fun _ _ _ g s ⟨a, b, c, h1, h2, h3, h4⟩ => ⟨a, b, c, h1, h _ _ _ g s h2, k _ _ _ g s h3, l _ _ _ g s h4⟩
theorem Gst.q {Φ Ψ : Value → World → Prop} (h : Gst Φ) (k : Gst Ψ) : Gst (IsQ Φ Ψ) := fun _ _ _ g sh ⟨s, a, n, c, s', a', n', c', h1, h2, h3⟩ => ⟨s, a, n, c, s', a', n', c', h1, h _ _ _ g sh h2, k _ _ _ g sh h3⟩
theorem Gst.j {Φ Ψ Χ Ω : Value → World → Prop} (h : Gst Φ) (k : Gst Ψ) (l : Gst Χ) (m : Gst Ω) : Gst (IsJ Φ Ψ Χ Ω) := fun _ _ _ g sh ⟨s, a, n, c, s', a', n', c', s2, a2, n2, c2, s3, a3, n3, c3, h1, h2, h3, h4, h5⟩ => ⟨s, a, n, c, s', a', n', c', s2, a2, n2, c2, s3, a3, n3, c3, h1, h _ _ _ g sh h2, k _ _ _ g sh h3, l _ _ _ g sh h4, m _ _ _ g sh h5⟩
theorem Gst.tt : Gst (fun _ _ => True) := fun _ _ _ _ _ _ => trivial
theorem gs0 : ∀ Φ ∈ ([] : List (Value → World → Prop)), GStb Φ := fun _ h => by cases h
theorem gs1 {Φ : Value → World → Prop} {l : List (Value → World → Prop)} (h : GStb Φ) (k : ∀ Ψ ∈ l, GStb Ψ) : ∀ Ψ ∈ Φ :: l, GStb Ψ := fun Ψ hm => by
 rcases List.mem_cons.1 hm with rfl | hm
 ·exact h
 ·exact k Ψ hm
inductive AllGst : List (Value → World → Prop) → Prop
 | nil : AllGst []
 | cons {p : Value → World → Prop} {ps : List (Value → World → Prop)} : Gst p → AllGst ps → AllGst (p :: ps)
theorem AllGst.get {L : List (Value → World → Prop)} (h : AllGst L) : ∀ i, Gst (L.getD i (fun _ _ => True)) := by
 induction h with
 | nil => intro i _ _ _ _ _ _; simp
 | cons h _ ih =>
  intro i
  cases i with
  | zero => simpa using h
  | succ i => simpa using ih i
/-- A new box of m fields, whatever they hold. -/
def IsNw (w0 : World) (m : Nat) : Value → World → Prop := fun x w => ∃ g, x = .pointer (some ⟨g, 0, none⟩) ∧ w0.heap.size ≤ g ∧ g < w.heap.size ∧ ∀ i, i < m → ∃ s a n c, Bo w g i s a n c
theorem IsNw.gs (w0 : World) (m : Nat) : Gst (IsNw w0 m) := fun _ _ _ g s ⟨b, h1, h2, h3, h4⟩ => ⟨b, h1, h2, Nat.lt_of_lt_of_le h3 g.1, fun i hi => s b i (h4 i hi)⟩
theorem IsBo.nw {w0 : World} {m : Nat} {x : Value} {w : World} (h : IsBo w0 m x w) : IsNw w0 m x w := let ⟨g, h1, h2, h3, h4⟩ := h; ⟨g, h1, h2, h4, fun i hi => ⟨_, _, _, _, h3 i hi⟩⟩
/-- The box x holds values of these facts. -/
def Stored (x : Value) (Fs : List (Value → World → Prop)) (w : World) : Prop := ∃ g, x = .pointer (some ⟨g, 0, none⟩) ∧ ∀ k Φ, Fs[k]? = some Φ → ∃ s a n c, Bo w g k s a n c ∧ Φ (.agg #[.bool s, .slice a n c]) w
/-- Only box x has been written. -/
structure Into (x : Value) (w w' : World) : Prop where
 gr : Gr w w'
 oth : ∀ g i s a n c, x ≠ .pointer (some ⟨g, 0, none⟩) → Bo w g i s a n c → Bo w' g i s a n c
 ext : ∀ w1 : World, Ext w1 w → (∀ g, x = .pointer (some ⟨g, 0, none⟩) → w1.heap.size ≤ g) → Ext w1 w'
 shp : Shp w w'
theorem Stored.ext {x : Value} {Fs : List (Value → World → Prop)} (hs : ∀ Φ ∈ Fs, GStb Φ) {w w' : World} (h : Stored x Fs w) (e : Ext w w') : Stored x Fs w' :=
 let ⟨g, h1, h2⟩ := h; ⟨g, h1, fun k Φ hk => let ⟨s, a, n, c, h3, h4⟩ := h2 k Φ hk; ⟨s, a, n, c, h3.ext e, hs Φ (List.mem_of_getElem? hk) _ _ _ e.gr h4⟩⟩
theorem Stored.into {x y : Value} {Fs : List (Value → World → Prop)} (hs : ∀ Φ ∈ Fs, GStb Φ) {w w' : World} (h : Stored x Fs w) (e : Into y w w') (hne : y ≠ x) : Stored x Fs w' :=
 let ⟨g, h1, h2⟩ := h; ⟨g, h1, fun k Φ hk => let ⟨s, a, n, c, h3, h4⟩ := h2 k Φ hk; ⟨s, a, n, c, e.oth _ _ _ _ _ _ (by rw [← h1]; exact hne) h3, hs Φ (List.mem_of_getElem? hk) _ _ _ e.gr h4⟩⟩

section
variable {P : Program} {ops : Array Oper} {Q : Exit → Act → World → Prop}
abbrev Tg := Option (Nat × List (Value → World → Prop))
/-- What is to be shown of a store into the box that operation j makes. -/
structure RgS (P : Program) (ops : Array Oper) (Q : Exit → Act → World → Prop) (ds : List (Option Tmp)) (a0 : Act) (w0 : World) (L : List (Value → World → Prop)) (i : Nat) (o : Oper) (j : Nat) (Fs : List (Value → World → Prop)) : Prop where
 out : ∀ (v : Nat → Value) (w : World), Ext w0 w → (∀ j, (ups .any ops i).contains j = true → L.getD j (fun _ _ => True) (v j) w) →
  ∀ K : Act → World → Prop, Shut (∀ w', Into (v j) w w' → Stored (v j) Fs w' → K (layL v a0 0 ds) w') → Oper.wp P o (layL v a0 0 ds) w K Q
inductive RgAllN (P : Program) (ops : Array Oper) (Q : Exit → Act → World → Prop) (ds : List (Option Tmp)) (a0 : Act) (w0 : World) (L : List (Value → World → Prop)) (boxes : List Nat) (tg : List Tg) : Nat → Nat → List Oper → Prop
 | nil {i : Nat} {os : List Oper} : RgAllN P ops Q ds a0 w0 L boxes tg i 0 os
 | op {i k : Nat} {o : Oper} {os : List Oper} : tg.getD i none = none → RgL P .any ops Q ds a0 w0 L boxes i o → RgAllN P ops Q ds a0 w0 L boxes tg (i + 1) k os → RgAllN P ops Q ds a0 w0 L boxes tg i (k + 1) (o :: os)
 | st {i k j : Nat} {Fs : List (Value → World → Prop)} {o : Oper} {os : List Oper} : tg.getD i none = some (j, Fs) → o.dst = none → o.guard = none → RgS P ops Q ds a0 w0 L i o j Fs → RgAllN P ops Q ds a0 w0 L boxes tg (i + 1) k os → RgAllN P ops Q ds a0 w0 L boxes tg i (k + 1) (o :: os)
variable {ds : List (Option Tmp)} {a0 : Act} {w0 : World} {L : List (Value → World → Prop)} {boxes : List Nat} {tg : List Tg} {i : Nat} {o : Oper}
theorem RgAllN.get {k i : Nat} {os : List Oper} (h : RgAllN P ops Q ds a0 w0 L boxes tg i k os) : ∀ j, j < k → ∀ o, os[j]? = some o →
  (match tg.getD (i + j) none with | none => RgL P .any ops Q ds a0 w0 L boxes (i + j) o | some (t, Fs) => o.dst = none ∧ o.guard = none ∧ RgS P ops Q ds a0 w0 L (i + j) o t Fs) := by
 induction h with
 | nil => intro j hj; omega
 | op ht h _ ih =>
  intro j hj o ho
  cases j with
  | zero =>
   obtain rfl := by simpa using ho
   simp only [Nat.add_zero]
   rw [ht]; exact h
  | succ j =>
   have := ih j (by omega) o (by simpa using ho)
   rwa [Nat.add_assoc, Nat.add_comm 1 j] at this
 | st ht hd hg h _ ih =>
  intro j hj o ho
  cases j with
  | zero =>
   obtain rfl := by simpa using ho
   simp only [Nat.add_zero]
   rw [ht]; exact ⟨hd, hg, h⟩
  | succ j =>
   have := ih j (by omega) o (by simpa using ho)
   rwa [Nat.add_assoc, Nat.add_comm 1 j] at this
theorem rgn_main (n : Nat) (hn : n ≤ ops.size) (hds : (List.range n).map (dstOf ops) = ds) (hap : dstsApart ops n = true) (htp : twoParts .any ops n [] = true)
  (hst : AllGst L) (hbx : ∀ i ∈ boxes, ∃ m, L.getD i (fun _ _ => True) = IsNw w0 m)
  (htg : ∀ i, i < n → ∀ j Fs, tg.getD i none = some (j, Fs) → (ups .any ops i).contains j = true ∧ boxes.contains j = true ∧ j < n ∧ (∀ Φ ∈ Fs, GStb Φ) ∧ ∀ i2, i2 < n → i ≠ i2 → ∀ j2 F2, tg.getD i2 none = some (j2, F2) → j ≠ j2)
  (hop : RgAllN P ops Q ds a0 w0 L boxes tg 0 n ops.toList)
  (hend : ∀ v w, Ext w0 w → (∀ i, i < n → tg.getD i none = none → L.getD i (fun _ _ => True) (v i) w) → (∀ i, i < n → ∀ j Fs, tg.getD i none = some (j, Fs) → Stored (v j) Fs w) →
   (∀ i j, i ∈ boxes → j ∈ boxes → i < n → j < n → i ≠ j → tg.getD i none = none → tg.getD j none = none → v i ≠ v j) → wpAny P .any ops Q (ops.size - n) (firstN ops.size n) (layL v a0 0 ds) w) :
  ∀ (fuel : Nat) (listed : Array Bool) (v : Nat → Value) (w : World), listed.size = ops.size → (∀ j, n ≤ j → listed.getD j false = false) →
   fuel + doneN listed n = ops.size → (∀ i, listed.getD i false = true → ∀ e ∈ needs .any ops i, listed.getD e false = true) → Ext w0 w →
   (∀ i, i < n → listed.getD i false = true → tg.getD i none = none → L.getD i (fun _ _ => True) (v i) w) →
   (∀ i, i < n → listed.getD i false = true → ∀ j Fs, tg.getD i none = some (j, Fs) → Stored (v j) Fs w) →
   (∀ i j, i < n → j < n → i ≠ j → boxes.contains i = true → boxes.contains j = true → tg.getD i none = none → tg.getD j none = none → listed.getD i false = true → listed.getD j false = true → v i ≠ v j) →
   (∀ i, i < n → ∀ j Fs, tg.getD i none = some (j, Fs) → tg.getD j none = none) → (∀ i, i < n → tg.getD i none ≠ none → ∀ x w, L.getD i (fun _ _ => True) x w) →
   wpAny P .any ops Q fuel listed (layN ops v a0 n) w := by
 simp only [twoParts, Bool.and_eq_true, List.all_eq_true, List.mem_range, Bool.or_eq_true, decide_eq_true_eq] at htp
 obtain ⟨htp1, htp2⟩ := htp
 intro fuel
 induction fuel with
 | zero =>
  intro listed v w hsz hbig hcnt hcl hE hΦ hS hdis hj0 htr
  have hle : doneN listed n ≤ n := by
   have := List.countP_le_length (p := fun i => listed.getD i false) (l := List.range n)
   simpa [doneN] using this
  have hnn : n = ops.size := by omega
  have hall : ∀ i, i < n → listed.getD i false = true := fun i hi => by
   cases h : listed.getD i false
   ·have := doneN_lt hi h; omega
   ·rfl
  have hl : listed = firstN ops.size n := by
   apply Array.ext (by simp [firstN, hsz])
   intro i h1 h2
   have h3 : listed[i] = listed.getD i false := by simp [h1]
   rw [h3, hall i (by omega)]; simp [firstN]; omega
  have := hend v w hE (fun i hi ht => hΦ i hi (hall i hi) ht) (fun i hi => hS i hi (hall i hi)) (fun i j hbi hbj hi hj hij ti tj => hdis i j hi hj hij (List.contains_iff_mem.2 hbi) (List.contains_iff_mem.2 hbj) ti tj (hall i hi) (hall j hj))
  rw [layN_layL v a0 n ds hds, hl]
  rwa [show ops.size - n = 0 by omega] at this
 | succ fuel ih =>
  intro listed v w hsz hbig hcnt hcl hE hΦ hS hdis hj0 htr
  by_cases hall : ∃ i, i < n ∧ (!listed.getD i false) = true
  ·obtain ⟨i1, hi1, h1⟩ := hall
   have hu1 : listed.getD i1 false = false := by simpa using h1
   obtain ⟨i0, hi0, h0, hmin⟩ := exists_least (fun i => !listed.getD i false) n ⟨i1, hi1, by rw [hu1]; rfl⟩
   have hi0s : i0 < listed.size := by omega
   have hr0 : i0 ∈ Region.ready .any ops listed := ready_of_needs (by simpa [hi0s] using h0) (by omega) (fun e he => by
    have := hmin e (by simpa using htp2 i0 hi0 e he)
    simpa using this)
   refine ⟨fun h => (by rw [h] at hr0; cases hr0), fun i hi => ?_⟩
   have hin : i < n := by
    rcases Nat.lt_or_ge i n with h | h
    ·exact h
    ·exfalso
     obtain ⟨_, o, ho, _⟩ := mem_ready.1 hi
     have his : i < ops.size := (Array.getElem?_eq_some_iff.1 ho).1
     rcases (htp1 i his).resolve_left (by omega) i1 hi1 with h2 | h2
     ·have h3 := sweep_listed hcl i (needs .any ops i) (needs_ready hi) i1 (List.contains_iff_mem.1 h2)
      rw [hu1] at h3; cases h3
     ·simp at h2
   obtain ⟨hun, o, ho, _⟩ := mem_ready.1 hi
   have hil : i < listed.size := by omega
   have hunf : listed.getD i false = false := by simp [hil] at hun ⊢; exact hun
   have hdeps : ∀ j, (ups .any ops i).contains j = true → L.getD j (fun _ _ => True) (v j) w := fun j hj => by
    have hjl := sweep_listed hcl i (needs .any ops i) (needs_ready hi) j (List.contains_iff_mem.1 hj)
    have hjn : j < n := by
     rcases Nat.lt_or_ge j n with h | h
     ·exact h
     ·rw [hbig j h] at hjl; cases hjl
    by_cases ht : tg.getD j none = none
    ·exact hΦ j hjn hjl ht
    ·exact htr j hjn ht _ _
   have hthis := RgAllN.get hop i hin o (by simpa using ho)
   rw [Nat.zero_add] at hthis
   refine wpOp_step ho fun K hK => ?_
   have hdst : o.dst = dstOf ops i := by simp [dstOf, ho]
   cases htgi : tg.getD i none with
   | none =>
    rw [htgi] at hthis
    have hrun := hthis v w hE hdeps K
    rw [← layN_layL v a0 n ds hds] at hrun
    refine hrun ?_
    intro x w' e1 hx hbx'
    refine hK _ _ ?_
    rw [hdst, layN_put a0 v i x n hin (fun j k hj hk hjk => dstsApart_spec hap hj hk hjk)]
    refine ih _ _ _ (by simp [hsz]) (fun j hj => ?_) ?_ (fun j hj e he => ?_) (hE.trans e1) (fun j hj hlj ht => ?_) (fun k hk hlk j Fs ht => ?_) (fun j k hj hk hjk hbj hbk htj htk hlj hlk => ?_) hj0 htr
    ·rw [getD_set_ne false (by omega)]; exact hbig j hj
    ·rw [doneN_set _ _ hun, if_pos hin]; omega
    ·by_cases hij : i = j
     ·subst hij
      exact getD_set_true (needs_ready hi e he)
     ·rw [getD_set_ne false hij] at hj
      exact getD_set_true (hcl j hj e he)
    ·by_cases hij : j = i
     ·subst hij; simpa only [updV, if_true] using hx
     ·rw [getD_set_ne false (Ne.symm hij)] at hlj
      simp only [updV]; rw [if_neg hij]
      exact hst.get j _ _ _ e1.gr (Shp.of e1) (hΦ j hj hlj ht)
    ·have hki : k ≠ i := fun h => by rw [h, htgi] at ht; cases ht
     rw [getD_set_ne false (Ne.symm hki)] at hlk
     have hji : j ≠ i := fun h => by
      have h1 := (htg k hk j Fs ht).1
      have h2 := sweep_listed hcl k (needs .any ops k) (fun e he => hcl k hlk e he) j (List.contains_iff_mem.1 h1)
      rw [h, hunf] at h2; cases h2
     simp only [updV]; rw [if_neg hji]
     exact (hS k hk hlk j Fs ht).ext (htg k hk j Fs ht).2.2.2.1 e1
    ·simp only [updV]
     by_cases hji : j = i
     ·subst hji
      rw [if_pos rfl, if_neg (Ne.symm hjk)]
      rw [getD_set_ne false hjk] at hlk
      obtain ⟨m, hm⟩ := hbx k (List.contains_iff_mem.1 hbk)
      have hk2 := hΦ k hk hlk htk
      rw [hm] at hk2
      obtain ⟨g, hg, _, hlt, _⟩ := hk2
      obtain ⟨g', hg', hge⟩ := hbx' hbj
      rw [hg, hg']
      intro h; injection h with h; injection h with h; injection h with h; omega
     ·rw [if_neg hji]
      rw [getD_set_ne false (Ne.symm hji)] at hlj
      by_cases hki : k = i
      ·subst hki
       rw [if_pos rfl]
       obtain ⟨m, hm⟩ := hbx j (List.contains_iff_mem.1 hbj)
       have hj2 := hΦ j hj hlj htj
       rw [hm] at hj2
       obtain ⟨g, hg, _, hlt, _⟩ := hj2
       obtain ⟨g', hg', hge⟩ := hbx' hbk
       rw [hg, hg']
       intro h; injection h with h; injection h with h; injection h with h; omega
      ·rw [if_neg hki]
       rw [getD_set_ne false (Ne.symm hki)] at hlk
       exact hdis j k hj hk hjk hbj hbk htj htk hlj hlk
   | some jF =>
    obtain ⟨t, Fs⟩ := jF
    rw [htgi] at hthis
    obtain ⟨hd0, hg0, hthis⟩ := hthis
    obtain ⟨hut, hbt, htn, hgF, hsep⟩ := htg i hin t Fs htgi
    have hrun := hthis.out v w hE hdeps K
    rw [← layN_layL v a0 n ds hds] at hrun
    rw [if_pos (by simp [Region.wanted, hg0])]
    refine hrun ?_
    intro w' hin' hst'
    refine hK _ _ ?_
    have hnt := hdeps t hut
    obtain ⟨m, hm⟩ := hbx t (List.contains_iff_mem.1 hbt)
    rw [hm] at hnt
    obtain ⟨gt, hgt, hgt0, _, _⟩ := hnt
    have htl := sweep_listed hcl i (needs .any ops i) (needs_ready hi) t (List.contains_iff_mem.1 hut)
    refine ih _ _ _ (by simp [hsz]) (fun j hj => ?_) ?_ (fun j hj e he => ?_) (hin'.ext w0 hE (fun g hg => by rw [hgt] at hg; injection hg with hg; injection hg with hg; injection hg with hg; omega)) (fun j hj hlj ht => ?_) (fun k hk hlk j F2 ht => ?_) (fun j k hj hk hjk hbj hbk htj htk hlj hlk => ?_) hj0 htr
    ·rw [getD_set_ne false (by omega)]; exact hbig j hj
    ·rw [doneN_set _ _ hun, if_pos hin]; omega
    ·by_cases hij : i = j
     ·subst hij
      exact getD_set_true (needs_ready hi e he)
     ·rw [getD_set_ne false hij] at hj
      exact getD_set_true (hcl j hj e he)
    ·have hij : j ≠ i := fun h => by rw [h, htgi] at ht; cases ht
     rw [getD_set_ne false (Ne.symm hij)] at hlj
     exact hst.get j _ _ _ hin'.gr hin'.shp (hΦ j hj hlj ht)
    ·by_cases hki : k = i
     ·subst hki
      rw [htgi] at ht
      injection ht with ht
      injection ht with h1 h2
      subst h1; subst h2
      exact hst'
     ·rw [getD_set_ne false (Ne.symm hki)] at hlk
      have hjt : t ≠ j := hsep k hk (fun h => hki h.symm) j F2 ht
      obtain ⟨huj, hbj, hjn, hgF2, _⟩ := htg k hk j F2 ht
      have hjl := sweep_listed hcl k (needs .any ops k) (fun e he => hcl k hlk e he) j (List.contains_iff_mem.1 huj)
      exact (hS k hk hlk j F2 ht).into hgF2 hin' (hdis t j htn hjn hjt hbt hbj (hj0 i hin t Fs htgi) (hj0 k hk j F2 ht) htl hjl)
    ·by_cases hji : j = i
     ·rw [hji, htgi] at htj; cases htj
     by_cases hki : k = i
     ·rw [hki, htgi] at htk; cases htk
     rw [getD_set_ne false (Ne.symm hji)] at hlj
     rw [getD_set_ne false (Ne.symm hki)] at hlk
     exact hdis j k hj hk hjk hbj hbk htj htk hlj hlk
  ·have hall' : ∀ i, i < n → listed.getD i false = true := fun i hi => by
    cases h : listed.getD i false
    ·exact absurd ⟨i, hi, by rw [h]; rfl⟩ hall
    ·rfl
   have hl : listed = firstN ops.size n := by
    apply Array.ext (by simp [firstN, hsz])
    intro i h1 h2
    have h3 : listed[i] = listed.getD i false := by simp [h1]
    rw [h3]
    rcases Nat.lt_or_ge i n with h | h
    ·rw [hall' i h]; simp [firstN, h]
    ·rw [hbig i h]; simp [firstN]; omega
   have := hend v w hE (fun i hi ht => hΦ i hi (hall' i hi) ht) (fun i hi => hS i hi (hall' i hi)) (fun i j hbi hbj hi hj hij ti tj => hdis i j hi hj hij (List.contains_iff_mem.2 hbi) (List.contains_iff_mem.2 hbj) ti tj (hall' i hi) (hall' j hj))
   rw [layN_layL v a0 n ds hds, hl]
   have hdn := doneN_all n hall'
   rwa [show ops.size - n = fuel + 1 by omega] at this
/-! The rule, its side conditions found by themselves. -/
def AllNw (w0 : World) (L : List (Value → World → Prop)) : List Nat → Prop
 | [] => True
 | b :: bs => (∃ m, L.getD b (fun _ _ => True) = IsNw w0 m) ∧ AllNw w0 L bs
theorem AllNw.get {L : List (Value → World → Prop)} : ∀ {bs : List Nat}, AllNw w0 L bs → ∀ i ∈ bs, ∃ m, L.getD i (fun _ _ => True) = IsNw w0 m
 | [], _, _, h => by cases h
 | b :: bs, h, i, hi => by
  rcases List.mem_cons.1 hi with rfl | hi
  ·exact h.1
  ·exact AllNw.get h.2 i hi
/-- A store's own fact. -/
abbrev TT : Value → World → Prop := fun _ _ => True
/-- Facts of stores hold always; what is stored stays. -/
inductive AllTr : List Tg → List (Value → World → Prop) → Prop
 | nil {ls : List (Value → World → Prop)} : AllTr [] ls
 | none {ts : List Tg} {l : Value → World → Prop} {ls : List (Value → World → Prop)} : AllTr ts ls → AllTr (Option.none :: ts) (l :: ls)
 | some {ts : List Tg} {ls : List (Value → World → Prop)} {j : Nat} {Fs : List (Value → World → Prop)} : (∀ Φ ∈ Fs, GStb Φ) → AllTr ts ls → AllTr (Option.some (j, Fs) :: ts) (TT :: ls)
theorem AllTr.get {tg : List Tg} {L : List (Value → World → Prop)} (h : AllTr tg L) : ∀ i j Fs, tg.getD i Option.none = Option.some (j, Fs) → i < L.length → L.getD i (fun _ _ => True) = TT ∧ ∀ Φ ∈ Fs, GStb Φ := by
 induction h with
 | nil => intro i j Fs h _; simp at h
 | none _ ih =>
  intro i j Fs h hi
  cases i with
  | zero => simp at h
  | succ i => simpa using ih i j Fs (by simpa using h) (by simpa using hi)
 | some hF _ ih =>
  intro i j Fs h hi
  cases i with
  | zero =>
   simp only [List.getD_cons_zero, Option.some.injEq, Prod.mk.injEq] at h
   obtain ⟨rfl, rfl⟩ := h
   exact ⟨rfl, hF⟩
  | succ i => simpa using ih i j Fs (by simpa using h) (by simpa using hi)
def tgFine (ops : Array Oper) (n : Nat) (boxes : List Nat) (tg : List (Option Nat)) : Bool :=
 (List.range n).all fun i => match tg.getD i none with
  | none => true
  | some j => (ups .any ops i).contains j && boxes.contains j && decide (j < n) && (tg.getD j none == none) && (List.range n).all fun i2 => i == i2 || tg.getD i2 none != some j
theorem rgn (n : Nat) (ds : List (Option Tmp)) (L : List (Value → World → Prop)) (boxes : List Nat) (tg : List Tg) (tn : List (Option Nat)) (fuel : Nat) {id : Nat}
  (hop : RgAllN P ops Q ds a0 w0 L boxes tg 0 n ops.toList)
  (hend : ∀ v w, Ext w0 w → (∀ i, i < n → tg.getD i none = none → L.getD i (fun _ _ => True) (v i) w) → (∀ i, i < n → ∀ j Fs, tg.getD i none = some (j, Fs) → Stored (v j) Fs w) →
   (∀ i j, i ∈ boxes → j ∈ boxes → i < n → j < n → i ≠ j → tg.getD i none = none → tg.getD j none = none → v i ≠ v j) → wpAny P .any ops Q fuel (firstN ops.size n) (layL v a0 0 ds) w)
  (hm : P.follows .mixedOrders = true := by kernel_rfl) (hn : n ≤ ops.size := by decide) (hf : ops.size - n = fuel := by kernel_rfl) (hds : (List.range n).map (dstOf ops) = ds := by kernel_rfl) (hap : dstsApart ops n = true := by kernel_rfl) (htp : twoParts .any ops n [] = true := by kernel_rfl)
  (htn : tg.map (fun t => t.map (fun p => p.1)) = tn := by kernel_rfl) (hfine : tgFine ops n boxes tn = true := by kernel_rfl) (hlen : decide (n ≤ L.length) = true := by kernel_rfl)
  (hst : AllGst L := by repeat' (with_reducible first | exact AllGst.nil | apply AllGst.cons | exact Gst.v _ | exact Gst.tt | exact Gst.of (IsI.gstb _ _) | exact IsNw.gs _ _ | exact Gst.of (IsR.gstb _ _) | apply Gst.q | apply Gst.j | apply Gst.t2 | apply Gst.t3))
  (hbx : AllNw w0 L boxes := by repeat' (first | exact trivial | exact ⟨_, rfl⟩ | apply And.intro))
  (htr : AllTr tg L := by repeat' (with_reducible first | exact AllTr.nil | apply AllTr.none | (refine AllTr.some ?_ ?_) | exact gs0 | (refine gs1 ?_ ?_) | exact IsI.gstb _ _ | exact IsR.gstb _ _)) :
  (Code.region id ops true).wp P Q a0 w0 := by
 have hg : ∀ i, tn.getD i none = (tg.getD i none).map (fun p => p.1) := fun i => by
  rw [← htn]
  simp only [List.getD_eq_getElem?_getD, List.getElem?_map]
  cases tg[i]? <;> rfl
 simp only [tgFine, List.all_eq_true, List.mem_range] at hfine
 have hfin : ∀ i, i < n → ∀ j Fs, tg.getD i none = some (j, Fs) → (ups .any ops i).contains j = true ∧ boxes.contains j = true ∧ j < n ∧ tg.getD j none = none ∧ ∀ i2, i2 < n → i ≠ i2 → ∀ j2 F2, tg.getD i2 none = some (j2, F2) → j ≠ j2 := fun i hi j Fs ht => by
  have := hfine i hi
  rw [hg i, ht] at this
  simp only [Option.map_some, Bool.and_eq_true, decide_eq_true_eq, List.all_eq_true, List.mem_range, Bool.or_eq_true, beq_iff_eq, bne_iff_ne, ne_eq] at this
  obtain ⟨⟨⟨⟨h1, h2⟩, h3⟩, h4⟩, h5⟩ := this
  refine ⟨h1, h2, h3, ?_, fun i2 hi2 hne j2 F2 ht2 he => ?_⟩
  ·rw [hg j] at h4
   cases h : tg.getD j none with
   | none => rfl
   | some p => rw [h] at h4; simp at h4
  ·rcases h5 i2 hi2 with h | h
   ·exact hne h
   ·rw [hg i2, ht2] at h; exact h (by rw [he]; rfl)
 have htr' : ∀ i, i < n → ∀ j Fs, tg.getD i none = some (j, Fs) → L.getD i (fun _ _ => True) = TT ∧ ∀ Φ ∈ Fs, GStb Φ := fun i hi j Fs ht => htr.get i j Fs ht (by have := of_decide_eq_true hlen; omega)
 refine wp_region_any hm ?_
 have hE : Ext w0 w0.drew := (Ext.refl w0).drew
 have hD : ∀ m, doneN (Array.replicate ops.size false) m = 0 := fun m => by
  unfold doneN
  rw [List.countP_eq_zero.2]
  intro i _
  simp [listed_false]
 have := rgn_main (P := P) (Q := Q) (a0 := a0) (w0 := w0) (tg := tg) (L := L) (boxes := boxes) n hn hds hap htp hst hbx.get
  (fun i hi j Fs ht => ⟨(hfin i hi j Fs ht).1, (hfin i hi j Fs ht).2.1, (hfin i hi j Fs ht).2.2.1, (htr' i hi j Fs ht).2, (hfin i hi j Fs ht).2.2.2.2⟩)
  hop (fun v w e h1 h2 h3 => by rw [hf]; exact hend v w e h1 h2 h3)
  ops.size (Array.replicate ops.size false) (slotVal ops a0) w0.drew (by simp) (fun j _ => by simp [listed_false]) (by rw [hD]; rfl)
  (fun i hi => by simp [listed_false] at hi) hE (fun i hi h => by simp [listed_false] at h) (fun i hi h => by simp [listed_false] at h) (fun i j _ _ _ _ _ _ _ h => by simp [listed_false] at h)
  (fun i hi j Fs ht => (hfin i hi j Fs ht).2.2.2.1) (fun i hi ht x w => by
   cases h : tg.getD i none with
   | none => exact absurd h ht
   | some p => rw [(htr' i hi p.1 p.2 h).1]; trivial)
 have hlay : layN ops (slotVal ops a0) a0 n = a0 := layN_self a0 n
 rwa [hlay] at this
/-! Its rows. -/
variable {os : List Oper} {k : Nat}
theorem RcS (j : Nat) {Fs : List (Value → World → Prop)} (h : RgS P ops Q ds a0 w0 L i o j Fs) (hs : RgAllN P ops Q ds a0 w0 L boxes tg (i + 1) k os) (ht : tg.getD i none = some (j, Fs) := by kernel_rfl) (hd : o.dst = none := by rfl) (hg : o.guard = none := by rfl) : RgAllN P ops Q ds a0 w0 L boxes tg i (k + 1) (o :: os) := .st ht hd hg h hs
theorem RcK (h : Ok P ops Q ds a0 w0 L boxes i o) (hs : RgAllN P ops Q ds a0 w0 L boxes tg (i + 1) k os) (hg : o.guard = none := by rfl) (ht : tg.getD i none = none := by kernel_rfl) : RgAllN P ops Q ds a0 w0 L boxes tg i (k + 1) (o :: os) := .op ht (RgL.mk hg h.out) hs
/-- A new box, to be filled. -/
theorem alN {T m : Nat} (hr : AlO P T m) (ho : o.op = .alloc T := by rfl) (hi : L.getD i (fun _ _ => True) = IsNw w0 m := by kernel_rfl) : Ok P ops Q ds a0 w0 L boxes i o :=
 ⟨fun v a w hE hd hf K hK => by
  obtain ⟨w', h1, h2, h3⟩ := hr w0 w hE.size
  have hrun : (execOp a.eval o).run P w = .ok (.value (.pointer (some ⟨w.heap.size, 0, none⟩))) w' := by
   unfold execOp
   rw [ho]
   dsimp only
   simp [h1]
  unfold Oper.wp
  rw [hrun]
  exact hK.out _ w' h2 (by rw [hi]; exact h3.nw) FreshIf.yes⟩
theorem Into.put {w : World} {g i n c : Nat} {s : Bool} {a : Option Addr} (b : Bo w g i s a n c) (s' : Bool) (a' : Option Addr) (n' c' : Nat) :
  ∃ W, W = (w.setCell ⟨g, 2 * i, none⟩ (.bool s')).setCell ⟨g, 2 * i + 1, none⟩ (.slice a' n' c') ∧ Bo W g i s' a' n' c' ∧ Into (.pointer (some ⟨g, 0, none⟩)) w W ∧ (∀ i2 s2 a2 n2 c2, i2 ≠ i → Bo w g i2 s2 a2 n2 c2 → Bo W g i2 s2 a2 n2 c2) := by
 obtain ⟨W, hW, b1, p⟩ := b.put s' a' n' c'
 refine ⟨W, hW, b1, ⟨p.2.1, fun g2 i2 s2 a2 n2 c2 hne h => p.1 _ _ _ _ _ _ (fun he => hne (by injection he with he; rw [he])) h, fun w1 e hg => p.2.2 w1 e (hg g rfl), fun g2 i2 ⟨s2, a2, n2, c2, h⟩ => ?_⟩, fun i2 s2 a2 n2 c2 hne h => p.1 _ _ _ _ _ _ (fun he => hne (by injection he with _ he)) h⟩
 by_cases he : (g2, i2) = (g, i)
 ·injection he with h1 h2
  subst h1; subst h2
  exact ⟨_, _, _, _, b1⟩
 ·exact ⟨_, _, _, _, p.1 _ _ _ _ _ _ he h⟩
theorem Into.trans {x : Value} {a b c : World} (h : Into x a b) (k : Into x b c) : Into x a c :=
 ⟨h.gr.trans k.gr, fun g i s n m d hne hb => k.oth g i s n m d hne (h.oth g i s n m d hne hb), fun w1 e hg => k.ext w1 (h.ext w1 e hg) hg, fun g i hb => k.shp g i (h.shp g i hb)⟩
theorem sQ {T tp j : Nat} {y : Operand} {Φ Ψ : Value → World → Prop} (hT : StQ P T) (hy : Od ops ds a0 w0 L i y (IsQ Φ Ψ)) (g2 : GStb Ψ) (g1 : GStb Φ) (ho : o.op = .store T (.tmp tp) y := by rfl) (hdd : o.dst = none := by rfl)
  (hj : L.getD j (fun _ _ => True) = IsNw w0 2 := by kernel_rfl) (hu : (ups .any ops i).contains j = true := by kernel_rfl) (h1 : ds[j]? = some (some tp) := by kernel_rfl) (h2 : (ds.drop (j + 1)).contains (some tp) = false := by kernel_rfl) (h3 : decide (tp < a0.tmps.size) = true := by kernel_rfl) : RgS P ops Q ds a0 w0 L i o j [Φ, Ψ] := by
 refine ⟨fun v w hE hd K hK => ?_⟩
 have hf := Fr.of ds a0 v
 obtain ⟨s, a1, n1, c1, s', a1', n1', c1', hv, hΦ, hΨ⟩ := hy.out v _ w hE hd hf
 have hp : (layL v a0 0 ds).eval (.tmp tp) = v j := by rw [eval_tmp, hf.val j tp _ rfl h1 h2 h3]
 have hn := hd j hu
 rw [hj] at hn
 obtain ⟨g, hg, _, _, hb⟩ := hn
 obtain ⟨t0, t1, t2, t3, b0⟩ := hb 0 (by decide)
 obtain ⟨u0, u1, u2, u3, b1⟩ := hb 1 (by decide)
 obtain ⟨W, hW, k0, i1, o1⟩ := Into.put b0 s a1 n1 c1
 obtain ⟨W2, hW2, k1, i2, o2⟩ := Into.put (o1 1 _ _ _ _ (by decide) b1) s' a1' n1' c1'
 refine st_wp ho (hp.trans hg) hv (hT w g 0 _ _ _ _ _ _ _ _ _ _ _ _ _ _ _ _ b0.c0 b0.c1 b0.f0 b0.f1 b1.c0 b1.c1 b1.f0 b1.f1) ?_
 have hW3 : W2 = ((((w.setCell ⟨g, 0, none⟩ (.bool s)).setCell ⟨g, 0 + 1, none⟩ (.slice a1 n1 c1)).setCell ⟨g, 0 + 2, none⟩ (.bool s')).setCell ⟨g, 0 + 3, none⟩ (.slice a1' n1' c1')) := by rw [hW2, hW]
 rw [← hW3, hdd]
 refine hK.out W2 (by rw [hg]; exact i1.trans i2) ⟨g, hg, fun k Χ hk => ?_⟩
 rcases k with _ | _ | k
 ·obtain rfl : Φ = Χ := by simpa using hk
  exact ⟨_, _, _, _, o2 0 _ _ _ _ (by decide) k0, g1 _ _ _ (i1.gr.trans i2.gr) hΦ⟩
 ·obtain rfl : Ψ = Χ := by simpa using hk
  exact ⟨_, _, _, _, k1, g2 _ _ _ (i1.gr.trans i2.gr) hΨ⟩
 ·simp at hk
/-- A filled box joins those at hand. -/
theorem Sto.addQ {w0 w W : World} {B : List Fld} (S : Sto w0 w B) {x : Value} {Φ Ψ : Value → World → Prop} (h : IsNw W 2 x w) (k : Stored x [Φ, Ψ] w) (hW : w0.heap.size ≤ W.heap.size) (hΦ : GStb Φ) (hΨ : GStb Ψ) :
  ∃ g, x = .pointer (some ⟨g, 0, none⟩) ∧ W.heap.size ≤ g ∧ (ApartO g B → Sto w0 w (((g, 1), Ψ) :: ((g, 0), Φ) :: B)) := by
 obtain ⟨g, hg, h1, h2, _⟩ := h
 obtain ⟨g', hg', h3⟩ := k
 rw [hg] at hg'
 obtain rfl : g = g' := by injection hg' with e; injection e with e; injection e
 obtain ⟨s, a, n, c, b, hb⟩ := h3 0 Φ rfl
 obtain ⟨s', a', n', c', b', hb'⟩ := h3 1 Ψ rfl
 refine ⟨g, hg, h1, fun hap => ((S.add b (by omega) (fun p hp he => hap p hp (by rw [he])) hΦ hb).add b' (by omega) (fun p hp he => ?_) hΨ hb')⟩
 rcases List.mem_cons.1 hp with rfl | hp
 ·simp at he
 ·exact hap p hp (by rw [he])
end
end Go.Proofs.YtkeikfekkdplgaaGreatDoor
