/-
 A drawn region whose last operations are a call that may change whatever it likes, a new box that is made at any time, and a store into that box. No condition on the program.
-/
import Derived.Test.YtkeikfekkdplgaaGreatDoorEv0
namespace Go.Proofs.YtkeikfekkdplgaaGreatDoor
open Go Go.RowKit
section
variable {P : Program} {md : Region.Mode} {ops : Array Oper} {Q : Exit → Act → World → Prop}

theorem rgC_main (n : Nat) (L : Nat → Value → World → Prop) (Rel : World → World → Prop) (Ψ : Value → World → Prop) {a0 : Act} {w0 : World}
  (hsz : ops.size = n + 3) (hap : dstsApart ops (n + 2) = true) (hnd : ∀ i, i < n → ∀ e ∈ needs md ops i, e < i) (hnA : needs md ops (n + 1) = [])
  (hnC : ∀ i, i < n → (ups md ops n).contains i = true) (hnC2 : ∀ e ∈ needs md ops n, e < n) (hnS : ∀ i, i < n + 2 → (ups md ops (n + 2)).contains i = true)
  (hst : ∀ i, i < n → Stb (L i)) (hstA : Stb (L (n + 1))) (hstP : Stb Ψ) (hRA : ∀ x w w', Rel w w' → L (n + 1) x w → L (n + 1) x w')
  (hop : ∀ i, i < n → ∀ o, ops[i]? = some o → ∀ (v : Nat → Value) (w : World), Ext w0 w → (∀ j, (ups md ops i).contains j = true → L j (v j) w) → ∀ K : Act → World → Prop,
   (∀ x w', Ext w w' → L i x w' → K ((layN ops v a0 (n + 2)).put o.dst x) w') → if Region.wanted o (yielded ops (layN ops v a0 (n + 2)).tmps) = true then Oper.wp P o (layN ops v a0 (n + 2)) w K Q else K ((layN ops v a0 (n + 2)).put o.dst undef) w)
  (hal : ∀ o, ops[n + 1]? = some o → ∀ (v : Nat → Value) (w : World), w0.heap.size ≤ w.heap.size → ∀ K : Act → World → Prop,
   (∀ x w', Ext w w' → L (n + 1) x w' → K ((layN ops v a0 (n + 2)).put o.dst x) w') → if Region.wanted o (yielded ops (layN ops v a0 (n + 2)).tmps) = true then Oper.wp P o (layN ops v a0 (n + 2)) w K Q else K ((layN ops v a0 (n + 2)).put o.dst undef) w)
  (hRs : ∀ w w', Rel w w' → w.heap.size ≤ w'.heap.size)
  (hcall : ∀ o, ops[n]? = some o → ∀ (v : Nat → Value) (w : World), Ext w0 w → (∀ j, j < n → L j (v j) w) → ∀ K : Act → World → Prop,
   (∀ x w', Rel w w' → Ψ x w' → K ((layN ops v a0 (n + 2)).put o.dst x) w') → if Region.wanted o (yielded ops (layN ops v a0 (n + 2)).tmps) = true then Oper.wp P o (layN ops v a0 (n + 2)) w K Q else K ((layN ops v a0 (n + 2)).put o.dst undef) w)
  (hend : ∀ v w, Ψ (v n) w → L (n + 1) (v (n + 1)) w → wpAny P md ops Q 1 (firstN ops.size (n + 2)) (layN ops v a0 (n + 2)) w) :
  ∀ (fuel : Nat) (listed : Array Bool) (v : Nat → Value) (w : World), listed.size = ops.size → listed.getD n false = false → listed.getD (n + 2) false = false →
   fuel + doneN listed (n + 2) = n + 3 → (∀ i, listed.getD i false = true → ∀ e ∈ needs md ops i, listed.getD e false = true) → Ext w0 w →
   (∀ i, i < n → listed.getD i false = true → L i (v i) w) → (listed.getD (n + 1) false = true → L (n + 1) (v (n + 1)) w) →
   wpAny P md ops Q fuel listed (layN ops v a0 (n + 2)) w := by
 have hput : ∀ (v : Nat → Value) (i : Nat) (x : Value), i < n + 2 → (layN ops v a0 (n + 2)).put (dstOf ops i) x = layN ops (updV v i x) a0 (n + 2) := fun v i x hi => layN_put a0 v i x (n + 2) hi (fun j k hj hk hjk => dstsApart_spec hap hj hk hjk)
 have hfirst : ∀ (m : Nat) (listed : Array Bool), listed.size = ops.size → (∀ i, i < m → listed.getD i false = true) → (∀ i, m ≤ i → listed.getD i false = false) → listed = firstN ops.size m := by
  intro m listed h1 h2 h3
  apply Array.ext (by simp [firstN, h1])
  intro i g1 g2
  have h4 : listed[i] = listed.getD i false := by simp [g1]
  rw [h4]
  rcases Nat.lt_or_ge i m with h | h
  ·rw [h2 i h]; simp [firstN, h]
  ·rw [h3 i h]; simp [firstN]; omega
 intro fuel
 induction fuel with
 | zero =>
  intro listed v w hs hn hS hcnt hcl hR hΦ hA
  have h1 := doneN_lt (n := n + 2) (i := n) (by omega) hn
  omega
 | succ fuel ih =>
  intro listed v w hs hn hS hcnt hcl hR hΦ hA
  have hout : ∀ j, n + 3 ≤ j → listed.getD j false = false := fun j hj => by simp [Array.getElem?_eq_none (show listed.size ≤ j by omega)]
  have hne : Region.ready md ops listed ≠ [] := by
   by_cases hall : ∀ i, i < n → listed.getD i false = true
   ·have : n ∈ Region.ready md ops listed := ready_of_needs (by simpa [show n < listed.size by omega] using hn) (by omega) (fun e he => hall e (hnC2 e he))
    intro h; rw [h] at this; cases this
   ·have hex : ∃ i, i < n ∧ (!listed.getD i false) = true := by
     rcases Classical.em (∃ i, i < n ∧ (!listed.getD i false) = true) with h | h
     ·exact h
     ·exact absurd (fun i hi => by
       cases h' : listed.getD i false
       ·exact absurd ⟨i, hi, by simp [h']⟩ h
       ·rfl) hall
    obtain ⟨i, hi, h0, hmin⟩ := exists_least (fun i => !listed.getD i false) n hex
    have : i ∈ Region.ready md ops listed := ready_of_needs (by simpa [show i < listed.size by omega] using h0) (by omega) (fun e he => by
     have := hmin e (hnd i hi e he)
     simpa using this)
    intro h; rw [h] at this; cases this
  refine ⟨fun h => absurd h hne, fun i hi => ?_⟩
  obtain ⟨hun, o, ho, _⟩ := mem_ready.1 hi
  have his : i < ops.size := (Array.getElem?_eq_some_iff.1 ho).1
  have hil : i < listed.size := by omega
  have hdst : o.dst = dstOf ops i := by simp [dstOf, ho]
  have hups : ∀ j, (ups md ops i).contains j = true → listed.getD j false = true := fun j hj => sweep_listed hcl i (needs md ops i) (needs_ready hi) j (List.contains_iff_mem.1 hj)
  have hcl' : ∀ j, (listed.setIfInBounds i true).getD j false = true → ∀ e ∈ needs md ops j, (listed.setIfInBounds i true).getD e false = true := fun j hj e he => by
   by_cases hij : i = j
   ·subst hij
    exact getD_set_true (needs_ready hi e he)
   ·rw [getD_set_ne false hij] at hj
    exact getD_set_true (hcl j hj e he)
  have hi2 : i ≠ n + 2 := fun h => by
   subst h
   have := hups n (hnS n (by omega))
   rw [hn] at this; cases this
  have hdn := doneN_set _ _ hun (n + 2)
  refine wpOp_step ho fun K hK => ?_
  by_cases hin : i = n
  ·-- the call
   subst hin
   have hall : ∀ j, j < i → listed.getD j false = true := fun j hj => hups j (hnC j hj)
   refine hcall o ho v w hR (fun j hj => hΦ j hj (hall j hj)) K (fun x w' hRel hΨ => hK _ _ ?_)
   rw [hdst, hput v i x (by omega)]
   rw [if_pos (by omega)] at hdn
   cases hA1 : listed.getD (i + 1) false with
   | true =>
    have hl : listed.setIfInBounds i true = firstN ops.size (i + 2) := hfirst (i + 2) _ (by simp [hs]) (fun j hj => by
     by_cases hij : i = j
     ·subst hij; simp [hil]
     ·rw [getD_set_ne false hij]
      rcases Nat.lt_or_ge j i with h | h
      ·exact hall j h
      ·obtain rfl : j = i + 1 := by omega
       exact hA1) (fun j hj => by
     rw [getD_set_ne false (by omega)]
     rcases Nat.lt_or_ge j (i + 3) with h | h
     ·obtain rfl : j = i + 2 := by omega
      exact hS
     ·exact hout j h)
    have hfu : fuel = 1 := by
     have : doneN listed (i + 2) = i + 1 := by
      have h2 := doneN_all (listed := listed.setIfInBounds i true) (i + 2) (fun j hj => by
       by_cases hij : i = j
       ·subst hij; simp [hil]
       ·rw [getD_set_ne false hij]
        rcases Nat.lt_or_ge j i with h | h
        ·exact hall j h
        ·obtain rfl : j = i + 1 := by omega
         exact hA1)
      omega
     omega
    rw [hl, hfu]
    refine hend _ _ (by simpa only [updV, if_true] using hΨ) ?_
    simp only [updV]; rw [if_neg (by omega)]
    exact hRA _ _ _ hRel (hA hA1)
   | false =>
    have hl : listed.setIfInBounds i true = firstN ops.size (i + 1) := hfirst (i + 1) _ (by simp [hs]) (fun j hj => by
     by_cases hij : i = j
     ·subst hij; simp [hil]
     ·rw [getD_set_ne false hij]; exact hall j (by omega)) (fun j hj => by
     rw [getD_set_ne false (by omega)]
     rcases Nat.lt_or_ge j (i + 3) with h | h
     ·rcases (show j = i + 1 ∨ j = i + 2 by omega) with rfl | rfl
      ·exact hA1
      ·exact hS
     ·exact hout j h)
    have hfu : fuel = 2 := by
     have h3 : doneN (listed.setIfInBounds i true) (i + 2) = i + 1 := by
      have h4 := doneN_all (listed := listed.setIfInBounds i true) (i + 1) (fun j hj => by
       by_cases hij : i = j
       ·subst hij; simp [hil]
       ·rw [getD_set_ne false hij]; exact hall j (by omega))
      have h5 : (listed.setIfInBounds i true).getD (i + 1) false = false := by rw [getD_set_ne false (by omega)]; exact hA1
      unfold doneN at h4 ⊢
      rw [List.range_succ, List.countP_append, h4]
      simp only [List.countP_cons, List.countP_nil, h5]
      simp
     omega
    rw [hl, hfu]
    -- the box is yet to be made
    have hA0 : i + 1 < (firstN ops.size (i + 1)).size := by rw [← hl]; simp [hs]; omega
    have hg : ∀ j, (firstN ops.size (i + 1)).getD j false = (listed.setIfInBounds i true).getD j false := fun j => by rw [hl]
    have hr1 : i + 1 ∈ Region.ready md ops (firstN ops.size (i + 1)) := ready_of_needs (by
     have := hg (i + 1)
     rw [getD_set_ne false (by omega), hA1] at this
     simpa [hA0] using this) (by omega) (fun e he => by rw [hnA] at he; cases he)
    refine ⟨fun h => (by rw [h] at hr1; cases hr1), fun k hk => ?_⟩
    obtain ⟨hun2, o2, ho2, _⟩ := mem_ready.1 hk
    have hks : k < ops.size := (Array.getElem?_eq_some_iff.1 ho2).1
    have hkl : k < (firstN ops.size (i + 1)).size := by rw [← hl]; simp [hs]; omega
    have hkf : (firstN ops.size (i + 1)).getD k false = false := by simp [hkl] at hun2 ⊢; exact hun2
    have hk1 : k = i + 1 := by
     rcases Nat.lt_or_ge k (i + 1) with h | h
     ·rw [hg] at hkf
      by_cases hik : i = k
      ·subst hik; simp [hil] at hkf
      ·rw [getD_set_ne false hik, hall k (by omega)] at hkf; cases hkf
     ·rcases (show k = i + 1 ∨ k = i + 2 by omega) with h1 | h1
      ·exact h1
      ·subst h1
       exfalso
       have h6 := sweep_listed (listed := firstN ops.size (i + 1)) (fun j hj e he => by rw [hg] at hj ⊢; exact hcl' j hj e he) (i + 2) (needs md ops (i + 2)) (needs_ready hk) (i + 1) (List.contains_iff_mem.1 (hnS (i + 1) (by omega)))
       rw [hg, getD_set_ne false (by omega), hA1] at h6; cases h6
    subst hk1
    have hdst2 : o2.dst = dstOf ops (i + 1) := by simp [dstOf, ho2]
    refine wpOp_step ho2 fun K2 hK2 => ?_
    refine hal o2 ho2 _ w' (Nat.le_trans hR.size (hRs _ _ hRel)) K2 (fun y w2 hE2 hy => hK2 _ _ ?_)
    rw [hdst2, hput _ (i + 1) y (by omega)]
    have hl2 : (firstN ops.size (i + 1)).setIfInBounds (i + 1) true = firstN ops.size (i + 2) := hfirst (i + 2) _ (by rw [← hl]; simp [hs]) (fun j hj => by
     by_cases hij : i + 1 = j
     ·subst hij; simp [hA0]
     ·rw [getD_set_ne false hij, hg]
      by_cases hij2 : i = j
      ·subst hij2; simp [hil]
      ·rw [getD_set_ne false hij2]; exact hall j (by omega)) (fun j hj => by
     rw [getD_set_ne false (by omega), hg, getD_set_ne false (by omega)]
     rcases Nat.lt_or_ge j (i + 3) with h | h
     ·obtain rfl : j = i + 2 := by omega
      exact hS
     ·exact hout j h)
    rw [hl2]
    refine hend _ _ ?_ (by simpa only [updV, if_true] using hy)
    simp only [updV]; rw [if_neg (by omega)]
    exact hstP _ _ _ hE2 (by simpa only [updV, if_true] using hΨ)
  ·have hnext : ∀ x w', Ext w w' → L i x w' → K ((layN ops v a0 (n + 2)).put o.dst x) w' := fun x w' hE hx => hK _ _ (by
    rw [hdst, hput v i x (by omega)]
    rw [if_pos (show i < n + 2 by omega)] at hdn
    refine ih _ _ _ (by simp [hs]) (by rw [getD_set_ne false hin]; exact hn) (by rw [getD_set_ne false hi2]; exact hS) (by omega) hcl' (hR.trans hE) (fun j hj hlj => ?_) (fun hlj => ?_)
    ·by_cases hij : j = i
     ·subst hij; simpa only [updV, if_true] using hx
     ·rw [getD_set_ne false (Ne.symm hij)] at hlj
      simp only [updV]; rw [if_neg hij]
      exact hst j hj _ _ _ hE (hΦ j hj hlj)
    ·by_cases hij : n + 1 = i
     ·rw [← hij] at hx; simpa only [updV, ← hij, if_true] using hx
     ·rw [getD_set_ne false (Ne.symm hij)] at hlj
      simp only [updV]; rw [if_neg hij]
      exact hstA _ _ _ hE (hA hlj))
   rcases (show i < n ∨ i = n + 1 by omega) with hin' | hin'
   ·refine hop i hin' o ho v w hR (fun j hj => ?_) K hnext
    have hjl := hups j hj
    rcases Nat.lt_or_ge j n with h | h
    ·exact hΦ j h hjl
    ·rcases (show j = n ∨ j = n + 1 ∨ j = n + 2 ∨ n + 3 ≤ j by omega) with rfl | rfl | rfl | h1
     ·rw [hn] at hjl; cases hjl
     ·exact hA hjl
     ·rw [hS] at hjl; cases hjl
     ·rw [hout j h1] at hjl; cases hjl
   ·subst hin'
    exact hal o ho v w hR.size K hnext
/-- The rule: n operations in whatever order, the call, the box, the store. -/
theorem rgC (n : Nat) (ds : List (Option Tmp)) (L : List (Value → World → Prop)) (Rel : World → World → Prop) (Ψ : Value → World → Prop) {a0 : Act} {w0 : World} {id : Nat} {oc oa : Oper}
  (hop : RgAll P .any ops Q ds a0 w0 L [] 0 n ops.toList)
  (hcall : ∀ (v : Nat → Value) (w : World), Ext w0 w → (∀ j, j < n → L.getD j (fun _ _ => True) (v j) w) → ∀ K : Act → World → Prop, Shut (∀ x w', Rel w w' → Ψ x w' → K ((layL v a0 0 ds).put oc.dst x) w') → Oper.wp P oc (layL v a0 0 ds) w K Q)
  (hal : ∀ w, w0.heap.size ≤ w.heap.size → Ok P ops Q ds a0 w L [] (n + 1) oa)
  (hend : ∀ v w, Ψ (v n) w → L.getD (n + 1) (fun _ _ => True) (v (n + 1)) w → wpAny P .any ops Q 1 (firstN ops.size (n + 2)) (layL v a0 0 ds) w)
  (hstP : Stb Ψ) (hRA : ∀ x w w', Rel w w' → L.getD (n + 1) (fun _ _ => True) x w → L.getD (n + 1) (fun _ _ => True) x w') (hRs : ∀ w w', Rel w w' → w.heap.size ≤ w'.heap.size)
  (hst : AllStb L)
  (hoc : ops[n]? = some oc := by rfl) (hoa : ops[n + 1]? = some oa := by rfl) (hgc : oc.guard = none := by rfl) (hga : oa.guard = none := by rfl)
  (hm : P.follows .mixedOrders = true := by kernel_rfl) (hsz : ops.size = n + 3 := by kernel_rfl) (hds : (List.range (n + 2)).map (dstOf ops) = ds := by kernel_rfl) (hap : dstsApart ops (n + 2) = true := by kernel_rfl)
  (hnd : (List.range n).all (fun i => (needs .any ops i).all fun e => decide (e < i)) = true := by kernel_rfl) (hnA : needs .any ops (n + 1) = [] := by kernel_rfl)
  (hnC : (List.range n).all (fun i => (ups .any ops n).contains i) = true := by kernel_rfl) (hnC2 : (needs .any ops n).all (fun e => decide (e < n)) = true := by kernel_rfl) (hnS : (List.range (n + 2)).all (fun i => (ups .any ops (n + 2)).contains i) = true := by kernel_rfl) :
  (Code.region id ops true).wp P Q a0 w0 := by
 simp only [List.all_eq_true, List.mem_range, decide_eq_true_eq] at hnd hnC hnC2 hnS
 refine wp_region_any hm ?_
 have hlay : ∀ v, layN ops v a0 (n + 2) = layL v a0 0 ds := fun v => layN_layL v a0 (n + 2) ds hds
 have hD : ∀ m, doneN (Array.replicate ops.size false) m = 0 := fun m => by
  unfold doneN
  rw [List.countP_eq_zero.2]
  intro i _
  simp [listed_false]
 have hLF : ∀ i, (Array.replicate ops.size false).getD i false = false := fun i => by simpa using listed_false ops.size i
 have := rgC_main (P := P) (md := .any) (ops := ops) (Q := Q) n (fun i => L.getD i (fun _ _ => True)) Rel Ψ (a0 := a0) (w0 := w0) hsz hap hnd hnA hnC hnC2 hnS (fun i _ => hst.get i) (hst.get _) hstP hRA
  (fun i hi o ho v w hE hd K hK => by
   have h1 := RgAll.get n 0 ops.toList hop i hi o (by simpa using ho)
   rw [Nat.zero_add] at h1
   rw [hlay]
   exact h1 v w hE hd K (fun x w' hE' hx _ => by have := hK x w' hE' hx; rwa [hlay] at this))
  (fun o ho v w hw K hK => by
   rw [hoa] at ho
   obtain rfl := Option.some.inj ho
   rw [hlay, if_pos (by simp [Region.wanted, hga])]
   exact (hal w hw).out v _ w (Ext.refl w) (fun j hj => by
    have : needs .any ops (n + 1) = [] := hnA
    have h2 : ups .any ops (n + 1) = [] := by
     unfold ups
     rw [this]
     have : ∀ k, sweep .any ops k [] = [] := fun k => by
      induction k with
      | zero => rfl
      | succ k ih => unfold sweep; simpa using ih
     exact this _
    rw [h2] at hj; cases hj) (Fr.of ds a0 v) K (fun x w' hE' hx _ => by have := hK x w' hE' hx; rwa [hlay] at this))
  hRs
  (fun o ho v w hE hd K hK => by
   rw [hoc] at ho
   obtain rfl := Option.some.inj ho
   rw [hlay, if_pos (by simp [Region.wanted, hgc])]
   exact hcall v w hE hd K (fun x w' hR hx => by have := hK x w' hR hx; rwa [hlay] at this))
  (fun v w h1 h2 => by rw [hlay]; exact hend v w h1 h2)
  (n + 3) (Array.replicate ops.size false) (slotVal ops a0) w0.drew (by simp) (hLF _) (hLF _) (by rw [hD]) (fun i hi => by rw [hLF] at hi; cases hi) (Ext.refl w0).drew (fun i _ hi => by rw [hLF] at hi; cases hi) (fun hi => by rw [hLF] at hi; cases hi)
 have hself : layN ops (slotVal ops a0) a0 (n + 2) = a0 := layN_self a0 (n + 2)
 rw [hself] at this
 rw [hsz] at this ⊢
 exact this
end
/-- A new block of known cells, from a place on. -/
def IsNb (B : Nat) (vs : List Value) : Value → World → Prop := fun x w => ∃ g, x = .pointer (some ⟨g, 0, none⟩) ∧ B ≤ g ∧ Bk w g vs
theorem IsNb.stb (B : Nat) (vs : List Value) : Stb (IsNb B vs) := fun _ _ _ e ⟨g, h1, h2, h3⟩ => ⟨g, h1, h2, h3.ext e⟩
section
variable {P : Program} {ops : Array Oper} {Q : Exit → Act → World → Prop} {ds : List (Option Tmp)} {a0 : Act} {w0 : World} {L : List (Value → World → Prop)} {boxes : List Nat} {i k : Nat} {o : Oper} {os : List Oper}
theorem alB {T : Nat} {B : Nat} {vs : List Value} (hr : ∀ w, (Instr.alloc T true (.tuple #[])).run P w = .ok (.pointer (some ⟨w.heap.size, 0, none⟩)) (w.alloc (.cells vs.toArray T))) (hB : B ≤ w0.heap.size) (ho : o.op = .alloc T := by rfl) (hi : L.getD i (fun _ _ => True) = IsNb B vs := by kernel_rfl) (hb : boxes.contains i = false := by kernel_rfl) : Ok P ops Q ds a0 w0 L boxes i o :=
 ⟨fun v a w hE hd hf K hK => by
  have hrun : (execOp a.eval o).run P w = .ok (.value (.pointer (some ⟨w.heap.size, 0, none⟩))) (w.alloc (.cells vs.toArray T)) := by
   unfold execOp
   rw [ho]
   dsimp only
   simp [hr w]
  unfold Oper.wp
  rw [hrun]
  exact hK.out _ _ ((Ext.refl w).alloc _) (by rw [hi]; exact ⟨_, rfl, Nat.le_trans hB hE.size, Bk.new w vs.toArray T⟩) (FreshIf.no hb)⟩
end
theorem al_Kn (w : World) : (Instr.alloc 176 true (.tuple #[])).run Tryz.prog w = .ok (.pointer (some ⟨w.heap.size, 0, none⟩)) (w.alloc (.cells [.bool false, .slice none 0 0, .bool false, .slice none 0 0, .bool false].toArray 176)) := by go_simp
end Go.Proofs.YtkeikfekkdplgaaGreatDoor
