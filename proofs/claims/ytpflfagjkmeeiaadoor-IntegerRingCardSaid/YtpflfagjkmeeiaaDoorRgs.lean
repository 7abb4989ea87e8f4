/-
  The rule of XRg for a region whose operations run in the order of the text. No condition on the program.
-/
import Derived.Test.YtpflfagjkmeeiaaDoorFact
namespace Go.Proofs.YtpflfagjkmeeiaaDoor
open Go Go.RowKit
section
variable {P : Program} {ops : Array Oper} {Q : Exit → Act → World → Prop}

theorem wp_list_rg (n : Nat) (L : List (Value → World → Prop)) (boxes : List Nat) {a0 : Act} {w0 : World} (ds : List (Option Tmp))
    (hn : n ≤ ops.size) (hds : (List.range n).map (dstOf ops) = ds) (hap : dstsApart ops n = true) (htp2 : ∀ i, i < n → ∀ e ∈ needs .any ops i, e < i)
    (hst : AllStb L) (hbx : ∀ i ∈ boxes, IsBox (L.getD i (fun _ _ => True)))
    (hop : RgAll P .any ops Q ds a0 w0 L boxes 0 n ops.toList)
    (hend : ∀ v w, Ext w0 w → (∀ i, i < n → L.getD i (fun _ _ => True) (v i) w) → (∀ i j, i ∈ boxes → j ∈ boxes → i < n → j < n → i ≠ j → v i ≠ v j) →
      wpList P ops Q (ops.toList.drop n) (layL v a0 0 ds) w) :
    ∀ (m k : Nat) (v : Nat → Value) (w : World), k + m = n → Ext w0 w → (∀ i, i < k → L.getD i (fun _ _ => True) (v i) w) →
      (∀ i j, i < k → j < k → i ≠ j → i ∈ boxes → j ∈ boxes → v i ≠ v j) → wpList P ops Q (ops.toList.drop k) (layN ops v a0 n) w := by
  intro m
  induction m with
  | zero =>
    intro k v w hk hR hΦ hd
    obtain rfl : k = n := by omega
    rw [layN_layL v a0 k ds hds]
    exact hend v w hR hΦ (fun i j hi hj hin hjn hij => hd i j hin hjn hij hi hj)
  | succ m ih =>
    intro k v w hk hR hΦ hd
    have hks : k < ops.size := by omega
    have ho : ops[k]? = some ops[k] := by simp [hks]
    have hdrop : ops.toList.drop k = ops[k] :: ops.toList.drop (k + 1) := by
      rw [List.drop_eq_getElem_cons (show k < ops.toList.length by rw [Array.length_toList]; exact hks)]; simp
    rw [hdrop]
    refine wpList_step fun K hK => ?_
    have h1 := RgAll.get n 0 ops.toList hop k (by omega) ops[k] (by simp)
    rw [Nat.zero_add] at h1
    have h2 := h1 v w hR (fun j hj => ?_) K
    · rw [← layN_layL v a0 n ds hds] at h2
      refine h2 ?_
      intro x w' hE hx hf
      refine hK _ _ ?_
      have hdst : (ops[k]).dst = dstOf ops k := by simp [dstOf, ho]
      rw [hdst, layN_put a0 v k x n (by omega) (fun i j hi hj hij => dstsApart_spec hap hi hj hij)]
      refine ih (k + 1) _ w' (by omega) (hR.trans hE) (fun i hi => ?_) (fun i j hi hj hij hbi hbj => ?_)
      · by_cases hik : i = k
        · subst hik; simpa only [updV, if_true] using hx
        · simp only [updV]; rw [if_neg hik]; exact hst.get i _ _ _ hE (hΦ i (by omega))
      · simp only [updV]
        by_cases hik : i = k
        · subst hik
          rw [if_pos rfl, if_neg (Ne.symm hij)]
          obtain ⟨g, hg, hlt⟩ := hbx j hbj _ _ (hΦ j (by omega))
          obtain ⟨g', hg', hge⟩ := hf (List.contains_iff_mem.2 hbi)
          rw [hg, hg']
          intro h; injection h with h; injection h with h; injection h with h; omega
        · rw [if_neg hik]
          by_cases hjk : j = k
          · subst hjk
            rw [if_pos rfl]
            obtain ⟨g, hg, hlt⟩ := hbx i hbi _ _ (hΦ i (by omega))
            obtain ⟨g', hg', hge⟩ := hf (List.contains_iff_mem.2 hbj)
            rw [hg, hg']
            intro h; injection h with h; injection h with h; injection h with h; omega
          · rw [if_neg hjk]; exact hd i j (by omega) (by omega) hij hbi hbj
    · have key : (firstN ops.size k).getD j false = true :=
        sweep_listed (md := .any) (ops := ops) (listed := firstN ops.size k)
          (fun i hi e he => by
            have hik : i < k ∧ i < ops.size := by
              rcases Nat.lt_or_ge i ops.size with h | h
              · simp [firstN, h] at hi; exact ⟨hi, h⟩
              · simp [firstN, h] at hi
            have := htp2 i (by omega) e he
            have hes : e < ops.size := by omega
            simp [firstN, hes]; omega)
          k (needs .any ops k)
          (fun e he => by
            have := htp2 k (by omega) e he
            have hes : e < ops.size := by omega
            simp [firstN, hes]; omega) j (List.contains_iff_mem.1 hj)
      rcases Nat.lt_or_ge j ops.size with h | h
      · simp [firstN, h] at key; exact hΦ j key
      · simp [firstN, h] at key

def backOk (ops : Array Oper) (n : Nat) : Bool := (List.range n).all fun i => (needs .any ops i).all fun e => decide (e < i)

theorem wp_region_rgs (n : Nat) (ds : List (Option Tmp)) (L : List (Value → World → Prop)) (boxes : List Nat) {a0 : Act} {w0 : World} {id : Nat}
    (hn : n ≤ ops.size) (hds : (List.range n).map (dstOf ops) = ds) (hap : dstsApart ops n = true) (htp : backOk ops n = true)
    (hst : AllStb L) (hbx : ∀ i ∈ boxes, IsBox (L.getD i (fun _ _ => True)))
    (hop : RgAll P .any ops Q ds a0 w0 L boxes 0 n ops.toList)
    (hend : ∀ v w, Ext w0 w → (∀ i, i < n → L.getD i (fun _ _ => True) (v i) w) → (∀ i j, i ∈ boxes → j ∈ boxes → i < n → j < n → i ≠ j → v i ≠ v j) →
      wpList P ops Q (ops.toList.drop n) (layL v a0 0 ds) w) :
    (Code.region id ops false).wp P Q a0 w0 := by
  refine wp_region_list ?_
  simp only [backOk, List.all_eq_true, List.mem_range, decide_eq_true_eq] at htp
  have := wp_list_rg n L boxes ds hn hds hap htp hst hbx hop hend n 0 (slotVal ops a0) w0 (by omega) (Ext.refl _) (fun i hi => by omega) (fun i j hi => by omega)
  have hlay : layN ops (slotVal ops a0) a0 n = a0 := layN_self a0 n
  rwa [hlay, List.drop_zero] at this

/-- The rule for a region that draws its order, with copies that may come late. -/
theorem wp_region_rgO (n : Nat) (opt : List Nat) (ds : List (Option Tmp)) (L : List (Value → World → Prop)) (boxes : List Nat) (fuel : Nat) {a0 : Act} {w0 : World} {id : Nat}
    (hm : P.follows .mixedOrders = true) (hn : n ≤ ops.size) (hf : ops.size - n = fuel) (hds : (List.range n).map (dstOf ops) = ds) (hap : dstsApart ops n = true) (htp : twoParts .any ops n opt = true) (hoo : optOk .any ops n opt = true) (hob : opt.all (fun i => !boxes.contains i) = true)
    (hst : AllStb L) (hbx : ∀ i ∈ boxes, IsBox (L.getD i (fun _ _ => True)))
    (hY : ∀ i ∈ opt, ∀ (v : Nat → Value) (w : World), Ext w0 w → (∀ j, (ups .any ops i).contains j = true → L.getD j (fun _ _ => True) (v j) w) → ∃ x o, ops[i]? = some o ∧ Yields P ops o x (layL v a0 0 ds) ∧ L.getD i (fun _ _ => True) x w)
    (hop : RgAll P .any ops (NoPanic Q) ds a0 w0 L boxes 0 n ops.toList)
    (hend : ∀ v w, Ext w0 w → (∀ i, i < n → L.getD i (fun _ _ => True) (v i) w) → (∀ i j, i ∈ boxes → j ∈ boxes → i < n → j < n → i ≠ j → v i ≠ v j) →
      wpAny P .any ops (NoPanic Q) fuel (firstN ops.size n) (layL v a0 0 ds) w) :
    (Code.region id ops true).wp P Q a0 w0 := by
  refine wp_region_noPanic ?_
  refine wp_region_any hm ?_
  have hE : Ext w0 w0.drew := (Ext.refl w0).drew
  have hD : ∀ m, doneN (Array.replicate ops.size false) m = 0 := fun m => by
    unfold doneN
    rw [List.countP_eq_zero.2]
    intro i _
    simp [listed_false]
  refine wpAny_rgO n [] opt ds L boxes fuel ?_ hn hf hds hap htp hoo hst hbx (by simp) (by simp) (fun i hi => ⟨?_, (fun _ _ _ _ _ h => h), fun v w hR => hY i hi v w (hE.trans hR)⟩) ?_ (fun v w hR => hend v w (hE.trans hR))
  · simp [startOk, hD, listed_false]
  · simp only [List.all_eq_true, Bool.not_eq_true'] at hob; exact hob i hi
  · have key : ∀ (k i : Nat) (os : List Oper), RgAll P .any ops (NoPanic Q) ds a0 w0 L boxes i k os → RgAll P .any ops (NoPanic Q) ds a0 w0.drew L boxes i k os := by
      intro k
      induction k with
      | zero => intro i os _; cases os <;> trivial
      | succ k ih =>
        intro i os h
        cases os with
        | nil => trivial
        | cons o os => exact ⟨fun v w hR => h.1 v w (hE.trans hR), ih _ _ h.2⟩
    exact key n 0 ops.toList hop
end

/-! ### Words for walks that a program has printed -/
theorem St.at {w0 w : World} {B : List (Nat × (Value → World → Prop))} (h : St w0 w B) (i : Nat) (g : Nat) (Φ : Value → World → Prop) (hp : B[i]? = some (g, Φ)) :
    ∃ s a n c, Bx w g s a n c ∧ Φ (.agg #[.bool s, .slice a n c]) w := h.get i _ hp
theorem St.new' {w0 w : World} {B : List (Nat × (Value → World → Prop))} (h : St w0 w B) (g : Nat) (hg : w.heap.size = g) (s : Bool) (a : Option Addr) (n c : Nat) (t : TypeId) (Φ : Value → World → Prop) (hs : GStb Φ) (hΦ : Φ (.agg #[.bool s, .slice a n c]) w) :
    St w0 (w.alloc (.cells #[.bool s, .slice a n c] t)) ((g, Φ) :: B) := hg ▸ h.new s a n c t Φ hs hΦ
theorem St.tail {w0 w : World} {p : Nat × (Value → World → Prop)} {B : List (Nat × (Value → World → Prop))} (h : St w0 w (p :: B)) : St w0 w B :=
  ⟨h.ext, fun q hq => h.box q (List.mem_cons_of_mem _ hq), fun q hq => h.stb q (List.mem_cons_of_mem _ hq), (List.pairwise_cons.1 h.apart).2⟩
/-- No box of B is g. -/
def Apart (g : Nat) (B : List (Nat × (Value → World → Prop))) : Prop := ∀ p ∈ B, p.1 ≠ g
theorem Apart.old {W : World} {B : List (Nat × (Value → World → Prop))} {g : Nat} (h : ∀ p ∈ B, p.1 < W.heap.size) (hg : W.heap.size ≤ g) : Apart g B := fun p hp he => by have := h p hp; omega
theorem Apart.cons {g g' : Nat} {Φ : Value → World → Prop} {B : List (Nat × (Value → World → Prop))} (h : g' ≠ g) (k : Apart g B) : Apart g ((g', Φ) :: B) := fun p hp => by
  rcases List.mem_cons.1 hp with rfl | hp
  · exact h
  · exact k p hp
theorem St.addN {w0 w : World} {B : List (Nat × (Value → World → Prop))} (h : St w0 w B) {g : Nat} (hn : Apart g B) (hg : w0.heap.size ≤ g) (hb : Bx w g false none 0 0) : St w0 w ((g, IsI 0 0) :: B) :=
  h.add hb hg hn (IsI.gstb 0 0) (IsI.nil w 0)
theorem St.addB {w0 w : World} {B : List (Nat × (Value → World → Prop))} (h : St w0 w B) {g : Nat} {s : Bool} {a : Option Addr} {n c : Nat} {Φ : Value → World → Prop} (hn : Apart g B) (hg : w0.heap.size ≤ g) (hb : Bx w g s a n c) (hs : GStb Φ) (hΦ : Φ (.agg #[.bool s, .slice a n c]) w) : St w0 w ((g, Φ) :: B) :=
  h.add hb hg hn hs hΦ
/-- What is known of a box, said otherwise. -/
theorem St.weaken {w0 w : World} {B : List (Nat × (Value → World → Prop))} (h : St w0 w B) (i : Nat) (g : Nat) (Φ Ψ : Value → World → Prop) (hp : B[i]? = some (g, Φ)) (hs : GStb Ψ) (hi : ∀ x, Φ x w → Ψ x w) : St w0 w (B.set i (g, Ψ)) := by
  obtain ⟨s, a, n, c, hb, hΦ⟩ := h.at i g Φ hp
  have hil : i < B.length := (List.getElem?_eq_some_iff.1 hp).1
  have hBi : B[i] = (g, Φ) := (List.getElem?_eq_some_iff.1 hp).2
  refine ⟨h.ext, fun p hpm => ?_, fun p hpm => ?_, ?_⟩
  · rcases List.mem_or_eq_of_mem_set hpm with hpm' | rfl
    · exact h.box p hpm'
    · exact ⟨(h.box _ (List.mem_of_getElem? hp)).1, s, a, n, c, hb, hi _ hΦ⟩
  · rcases List.mem_or_eq_of_mem_set hpm with hpm' | rfl
    · exact h.stb p hpm'
    · exact hs
  · rw [List.pairwise_iff_getElem]
    intro j k hj hk hjk
    have hj' : j < B.length := by simpa using hj
    have hk' : k < B.length := by simpa using hk
    have key := List.pairwise_iff_getElem.1 h.apart j k hj' hk' hjk
    rw [List.getElem_set, List.getElem_set]
    split
    · rename_i h5; subst h5
      rw [hBi] at key
      split
      · omega
      · exact key
    · split
      · rename_i h5; subst h5; rw [hBi] at key; exact key
      · exact key
theorem Ret.val {w : World} {u v : Value} {e : Ending} {w' : World} (h : Ret w (IsV v) e w') (hv : v = u) : Ret w (IsV u) e w' := hv ▸ h
theorem Ret.int {w : World} {i j : Int} {k : IntKind} {e : Ending} {w' : World} (h : Ret w (IsV (.int k i)) e w') (hv : i = j) : Ret w (IsV (.int k j)) e w' := hv ▸ h
theorem Ret.up {w : World} {k k' : Nat} {z : Int} {e : Ending} {w' : World} (h : Ret w (IsI k z) e w') (hk : k ≤ k') : Ret w (IsI k' z) e w' := h.mono fun _ _ h => h.mono hk
theorem Ret.eqz {w : World} {k : Nat} {z z' : Int} {e : Ending} {w' : World} (h : Ret w (IsI k z) e w') (hz : z = z') : Ret w (IsI k z') e w' := hz ▸ h

/-- The words of an integer; how many they are. -/
def IsMag (k : Nat) (z : Int) : Value → World → Prop := fun x w => ∃ s a n c, x = .slice a n c ∧ IntAt w k s a n c z
theorem IsMag.stb (k : Nat) (z : Int) : Stb (IsMag k z) := fun _ _ _ e ⟨s, a, n, c, h1, h2⟩ => ⟨s, a, n, c, h1, h2.ext e⟩
/-- A length that is not 0. -/
def IsPos : Value → World → Prop := fun x _ => ∃ n : Nat, x = .int .i64 (n : Int) ∧ 0 < n ∧ n ≤ 9223372036854775807
theorem IsPos.stb : Stb IsPos := fun _ _ _ _ h => h
theorem IntAt.len {w : World} {k n cap : Nat} {s : Bool} {ao : Option Addr} {z : Int} (h : IntAt w k s ao n cap z) : n ≤ 9223372036854775807 := by
  obtain ⟨m, ⟨xs, h1, _⟩, _⟩ := h
  have := h1.capo; have := h1.big; omega
end Go.Proofs.YtpflfagjkmeeiaaDoor
