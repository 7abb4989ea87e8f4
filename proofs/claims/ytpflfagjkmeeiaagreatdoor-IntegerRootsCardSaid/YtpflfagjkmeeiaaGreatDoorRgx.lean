/-
  The rule of XRg for a region whose stores may come early: each operation, stores among them, is shown once, in whatever world the others led to; the boxes that are written are read by none. No condition on the program.
-/
import Derived.Test.YtpflfagjkmeeiaaGreatDoorRFact
import Derived.Test.YtpflfagjkmeeiaaGreatDoorRgm
namespace Go.Proofs.YtpflfagjkmeeiaaGreatDoor
open Go Go.RowKit

section
variable {P : Program} {ops : Array Oper} {Q : Exit → Act → World → Prop}
def StbR (R : World → World → Prop) (p : Value → World → Prop) : Prop := ∀ x w w', R w w' → p x w → p x w'
def AllStbR (R : World → World → Prop) : List (Value → World → Prop) → Prop
  | [] => True
  | p :: ps => StbR R p ∧ AllStbR R ps
theorem AllStbR.get {R : World → World → Prop} : ∀ {L : List (Value → World → Prop)}, AllStbR R L → ∀ i, StbR R (L.getD i (fun _ _ => True))
  | [], _, i => fun _ _ _ _ _ => by simp
  | p :: ps, h, 0 => by simpa using h.1
  | p :: ps, h, i + 1 => by simpa using AllStbR.get h.2 i
def RgLx (P : Program) (ops : Array Oper) (Q : Exit → Act → World → Prop) (R : World → World → Prop) (ds : List (Option Tmp)) (a0 : Act) (w0 : World) (L : List (Value → World → Prop)) (i : Nat) (o : Oper) : Prop :=
  ∀ (v : Nat → Value) (w : World), R w0 w → (∀ j, (ups .any ops i).contains j = true → L.getD j (fun _ _ => True) (v j) w) →
    ∀ K : Act → World → Prop, Shut (∀ x w', R w w' → L.getD i (fun _ _ => True) x w' → K ((layL v a0 0 ds).put o.dst x) w') →
    if Region.wanted o (yielded ops (layL v a0 0 ds).tmps) = true then Oper.wp P o (layL v a0 0 ds) w K Q else K ((layL v a0 0 ds).put o.dst undef) w
def RgAllx (P : Program) (ops : Array Oper) (Q : Exit → Act → World → Prop) (R : World → World → Prop) (ds : List (Option Tmp)) (a0 : Act) (w0 : World) (L : List (Value → World → Prop)) : Nat → Nat → List Oper → Prop
  | _, 0, _ => True
  | _, _ + 1, [] => True
  | i, k + 1, o :: os => RgLx P ops Q R ds a0 w0 L i o ∧ RgAllx P ops Q R ds a0 w0 L (i + 1) k os
variable {R : World → World → Prop} {ds : List (Option Tmp)} {a0 : Act} {w0 : World} {L : List (Value → World → Prop)} {i : Nat} {o : Oper}
theorem RgAllx.get : ∀ (k i : Nat) (os : List Oper), RgAllx P ops Q R ds a0 w0 L i k os → ∀ j, j < k → ∀ o, os[j]? = some o → RgLx P ops Q R ds a0 w0 L (i + j) o
  | 0, _, _, _, j, h, _, _ => by omega
  | _ + 1, _, [], _, _, _, _, ho => by simp at ho
  | k + 1, i, o :: os, h, 0, _, o', ho => by simp at ho; subst ho; exact h.1
  | k + 1, i, o :: os, h, j + 1, hj, o', ho => by
    have := RgAllx.get k (i + 1) os h.2 j (by omega) o' (by simpa using ho)
    rwa [show i + (j + 1) = i + 1 + j by omega]
theorem RgAllx.nil {os : List Oper} : RgAllx P ops Q R ds a0 w0 L i 0 os := by cases os <;> trivial
theorem RgAllx.cons {k : Nat} {os : List Oper} (h : RgLx P ops Q R ds a0 w0 L i o) (hs : RgAllx P ops Q R ds a0 w0 L (i + 1) k os) : RgAllx P ops Q R ds a0 w0 L i (k + 1) (o :: os) := ⟨h, hs⟩
theorem RgLx.mk (hg : o.guard = none)
    (h : ∀ (v : Nat → Value) (a : Act) (w : World), R w0 w → (∀ j, (ups .any ops i).contains j = true → L.getD j (fun _ _ => True) (v j) w) → Fr ds a0 v a →
      ∀ K : Act → World → Prop, Shut (∀ x w', R w w' → L.getD i (fun _ _ => True) x w' → K (a.put o.dst x) w') → Oper.wp P o a w K Q) : RgLx P ops Q R ds a0 w0 L i o := by
  intro v w hE hd K hK
  rw [if_pos (by simp [Region.wanted, hg])]
  exact h v _ w hE hd (Fr.of ds a0 v) K hK

theorem wp_region_rgx (R : World → World → Prop) (n : Nat) (ds : List (Option Tmp)) (L : List (Value → World → Prop)) {id : Nat}
    (hm : P.follows .mixedOrders = true) (hn : decide (n ≤ ops.size) = true) (hds : (List.range n).map (dstOf ops) = ds) (hap : dstsApart ops n = true) (htp : twoParts .any ops n [] = true) (hns : Region.noSelect ops = true)
    (hRt : ∀ {a b c}, R a b → R b c → R a c) (hRe : ∀ {a b}, Ext a b → R a b)
    (hst : AllStbR R L)
    (hop : RgAllx P ops Q R ds a0 w0 L 0 n ops.toList)
    (hend : ∀ v w, R w0 w → (∀ i, i < n → L.getD i (fun _ _ => True) (v i) w) → wpAny P .any ops Q (ops.size - n) (firstN ops.size n) (layL v a0 0 ds) w) :
    (Code.region id ops true).wp P Q a0 w0 := by
  refine wp_region_any hm ?_
  have hE : R w0 w0.drew := hRe (Ext.refl w0).drew
  have hD : ∀ m, doneN (Array.replicate ops.size false) m = 0 := fun m => by
    unfold doneN
    rw [List.countP_eq_zero.2]
    intro i _
    simp [listed_false]
  have key : ∀ m, m ≤ n → AllOps (fun i => ∀ o, ops[i]? = some o → RgOp P .any ops Q n a0 w0.drew R (fun i => L.getD i (fun _ _ => True)) [] i o) m := by
    intro m
    induction m with
    | zero => intro _; trivial
    | succ m ih =>
      intro hm
      refine ⟨ih (by omega), fun o ho v w hR hd K hK => ?_⟩
      have := RgAllx.get n 0 ops.toList hop m (by omega) o (by simpa using ho)
      rw [Nat.zero_add] at this
      have := this v w (hRt hE hR) hd K
      rw [← layN_layL v a0 n ds hds] at this
      exact this (fun x w' hR hL => Shut.out hK x w' hR hL (fun h => by simp at h))
  have := rg_main n [] [] R (fun i => L.getD i (fun _ _ => True)) [] (w0 := w0.drew) (a0 := a0) (of_decide_eq_true hn) hap htp (by simp [optOk, hns])
    (by simp) hRt (fun i _ => hst.get i) (fun i _ hi => by simp at hi) (key n (Nat.le_refl _))
    (fun v w hR hΦ _ => by
      rw [layN_layL v a0 n ds hds]
      exact hend v w (hRt hE hR) hΦ)
    ops.size (Array.replicate ops.size false) (slotVal ops a0) w0.drew (by simp) (fun j _ => by simp [listed_false]) (by rw [hD]; rfl)
    (fun i hi => by simp [listed_false] at hi) (hRe (Ext.refl _)) (by simp) (fun i hi h => by simp [listed_false] at h) (fun i j _ _ _ h => by simp at h)
  have hlay : layN ops (slotVal ops a0) a0 n = a0 := layN_self a0 n
  rwa [hlay] at this
end

/-- Box g holds a value of which Φ holds. -/
def Has (p : Nat × (Value → World → Prop)) (w : World) : Prop := ∃ s a n c, Bx w p.1 s a n c ∧ p.2 (.agg #[.bool s, .slice a n c]) w
/-- The heap has grown, and none but the boxes of X may have been written; what has got its last value keeps it. -/
structure Rx (X : List (Nat × (Value → World → Prop))) (w w' : World) : Prop where
  gr : Gr w w'
  bx : ∀ g s a n c, (∀ p ∈ X, p.1 ≠ g) → Bx w g s a n c → Bx w' g s a n c
  ext : ∀ w0 : World, Ext w0 w → (∀ p ∈ X, w0.heap.size ≤ p.1) → Ext w0 w'
  has : ∀ p ∈ X, Has p w → Has p w'
  box : ∀ p ∈ X, (∃ s a n c, Bx w p.1 s a n c) → ∃ s a n c, Bx w' p.1 s a n c
theorem Rx.trans {X : List (Nat × (Value → World → Prop))} {a b c : World} (h : Rx X a b) (k : Rx X b c) : Rx X a c :=
  ⟨h.gr.trans k.gr, fun g s x n d hg hb => k.bx g s x n d hg (h.bx g s x n d hg hb), fun w0 e hX => k.ext w0 (h.ext w0 e hX) hX, fun p hp hh => k.has p hp (h.has p hp hh), fun p hp hh => k.box p hp (h.box p hp hh)⟩
theorem Rx.of {X : List (Nat × (Value → World → Prop))} (hs : ∀ p ∈ X, GStb p.2) {a b : World} (e : Ext a b) : Rx X a b :=
  ⟨e.gr, fun _ _ _ _ _ _ hb => hb.ext e, fun _ h _ => h.trans e, fun p hp ⟨s, x, n, c, h1, h2⟩ => ⟨s, x, n, c, h1.ext e, hs p hp _ _ _ e.gr h2⟩, fun _ _ ⟨s, x, n, c, h1⟩ => ⟨s, x, n, c, h1.ext e⟩⟩
/-- A box of X gets its last value. -/
theorem Rx.put {X : List (Nat × (Value → World → Prop))} (hs : ∀ p ∈ X, GStb p.2) (hX : X.Pairwise (fun p q => p.1 ≠ q.1)) {w : World} (p : Nat × (Value → World → Prop)) (hp : p ∈ X) (hb : ∃ s a n c, Bx w p.1 s a n c) (s : Bool) (a : Option Addr) (n c : Nat) (hv : p.2 (.agg #[.bool s, .slice a n c]) w) :
    ∃ W, W = (w.setCell ⟨p.1, 0, none⟩ (.bool s)).setCell ⟨p.1, 1, none⟩ (.slice a n c) ∧ Rx X w W ∧ Has p W := by
  obtain ⟨s', a', n', c', hb⟩ := hb
  obtain ⟨W, hW, b1, pt⟩ := hb.put' s a n c
  have hP : Has p W := ⟨s, a, n, c, b1, hs p hp _ _ _ pt.2.1 hv⟩
  refine ⟨W, hW, ⟨pt.2.1, fun g s2 a2 n2 c2 hg h => h.pt pt (fun he => hg p hp he.symm), fun w0 e h0 => e.pt pt (h0 p hp), fun q hq hh => ?_, fun q hq hh => ?_⟩, hP⟩
  · by_cases he : q.1 = p.1
    · obtain ⟨i, hi, hpi⟩ := List.mem_iff_getElem.1 hp
      obtain ⟨j, hj, hqj⟩ := List.mem_iff_getElem.1 hq
      rw [List.pairwise_iff_getElem] at hX
      rcases Nat.lt_trichotomy i j with h | h | h
      · have := hX i j hi hj h; rw [hpi, hqj] at this; exact absurd he.symm this
      · subst h
        have : p = q := by rw [← hpi, ← hqj]
        rw [← this]; exact hP
      · have := hX j i hj hi h; rw [hpi, hqj] at this; exact absurd he this
    · obtain ⟨s2, a2, n2, c2, h1, h2⟩ := hh
      exact ⟨s2, a2, n2, c2, h1.pt pt he, hs q hq _ _ _ pt.2.1 h2⟩
  · by_cases he : q.1 = p.1
    · exact ⟨s, a, n, c, by rw [he]; exact b1⟩
    · obtain ⟨s2, a2, n2, c2, h1⟩ := hh
      exact ⟨s2, a2, n2, c2, h1.pt pt he⟩
theorem StbR.v (X : List (Nat × (Value → World → Prop))) (u : Value) : StbR (Rx X) (IsV u) := fun _ _ _ _ h => h
theorem StbR.g {X : List (Nat × (Value → World → Prop))} {Φ : Value → World → Prop} (h : GStb Φ) : StbR (Rx X) Φ := fun _ _ _ r k => h _ _ _ r.gr k
def IsHas (p : Nat × (Value → World → Prop)) : Value → World → Prop := fun _ w => Has p w
theorem StbR.has {X : List (Nat × (Value → World → Prop))} (p : Nat × (Value → World → Prop)) (hp : p ∈ X) : StbR (Rx X) (IsHas p) := fun _ _ _ r k => r.has p hp k

theorem St.rx {w0 w w' : World} {B : List (Nat × (Value → World → Prop))} {X : List (Nat × (Value → World → Prop))} (S : St w0 w B) (r : Rx X w w') (hX : ∀ p ∈ X, w0.heap.size ≤ p.1 ∧ GStb p.2 ∧ Has p w')
    (B' : List (Nat × (Value → World → Prop))) (hm : B'.map (·.1) = B.map (·.1)) (hB : ∀ q ∈ B', q ∈ X ∨ (q ∈ B ∧ ∀ p ∈ X, p.1 ≠ q.1)) : St w0 w' B' := by
  refine ⟨r.ext w0 S.ext fun p hp => (hX p hp).1, fun q hq => ?_, fun q hq => ?_, ?_⟩
  · rcases hB q hq with h | ⟨h, hne⟩
    · exact ⟨(hX q h).1, (hX q h).2.2⟩
    · obtain ⟨h1, s, a, n, c, h2, h3⟩ := S.box q h
      exact ⟨h1, s, a, n, c, r.bx _ _ _ _ _ hne h2, S.stb q h _ _ _ r.gr h3⟩
  · rcases hB q hq with h | ⟨h, _⟩
    · exact (hX q h).2.1
    · exact S.stb q h
  · have h1 := S.apart
    have h2 : (B.map (·.1)).Pairwise (fun a b => a ≠ b) := List.pairwise_map.2 h1
    rw [← hm] at h2
    exact List.pairwise_map.1 h2
abbrev Fb := Nat × (Value → World → Prop)
theorem xs2 (p q : Fb) (gp : GStb p.2) (gq : GStb q.2) (ne : p.1 ≠ q.1) : ∃ X : List Fb, p ∈ X ∧ q ∈ X ∧ (∀ r ∈ X, GStb r.2) ∧ X.Pairwise (fun a b => a.1 ≠ b.1) ∧ (∀ b, p.1 ≠ b → q.1 ≠ b → ∀ r ∈ X, r.1 ≠ b) ∧ (∀ C : Fb → Prop, C p → C q → ∀ r ∈ X, C r) := by
  have key : ∀ C : Fb → Prop, C p → C q → ∀ r ∈ [p, q], C r := fun C h1 h2 r hr => by
    simp only [List.mem_cons, List.not_mem_nil, or_false] at hr
    rcases hr with rfl | rfl
    · exact h1
    · exact h2
  exact ⟨[p, q], by simp, by simp, key _ gp gq, by simp [ne], fun b h1 h2 => key (fun r => r.1 ≠ b) h1 h2, key⟩
theorem xs3 (p q t : Fb) (gp : GStb p.2) (gq : GStb q.2) (gt : GStb t.2) (n1 : p.1 ≠ q.1) (n2 : p.1 ≠ t.1) (n3 : q.1 ≠ t.1) : ∃ X : List Fb, p ∈ X ∧ q ∈ X ∧ t ∈ X ∧ (∀ r ∈ X, GStb r.2) ∧ X.Pairwise (fun a b => a.1 ≠ b.1) ∧ (∀ b, p.1 ≠ b → q.1 ≠ b → t.1 ≠ b → ∀ r ∈ X, r.1 ≠ b) ∧ (∀ C : Fb → Prop, C p → C q → C t → ∀ r ∈ X, C r) := by
  have key : ∀ C : Fb → Prop, C p → C q → C t → ∀ r ∈ [p, q, t], C r := fun C h1 h2 h3 r hr => by
    simp only [List.mem_cons, List.not_mem_nil, or_false] at hr
    rcases hr with rfl | rfl | rfl
    · exact h1
    · exact h2
    · exact h3
  exact ⟨[p, q, t], by simp, by simp, by simp, key _ gp gq gt, by simp [n1, n2, n3], fun b h1 h2 h3 => key (fun r => r.1 ≠ b) h1 h2 h3, key⟩
end Go.Proofs.YtpflfagjkmeeiaaGreatDoor
